/- Laws on walking typed knowledge through code, and contracts. -/
import Derived.Test.YthfaleobmefibaaGreatM5

/- Contracts: fields of the reference. -/
namespace Go.Fl
open Go Go.Proofs
open TrL renaming op → tO
open RunD renaming op → rO
set_option maxRecDepth 100000

abbrev RrT := FdT × Unit
def eRr : Enc RrT := eC (fun v : RrT => (v.1, ())) (eP eFd eU)
instance {v : RrT} : CellsK (kRd eRr v) [kRd (eL eI) (v.1.1), kI (v.1.2.1), kI (v.1.2.2.1), kI (v.1.2.2.2)] := inferInstanceAs (CellsK (kRd (eC (fun v : RrT => (v.1, ())) (eP eFd eU)) v) _)
instance {v : RrT} {tl : List Know} : EncCells eRr v tl (kRd (eL eI) (v.1.1) :: kI (v.1.2.1) :: kI (v.1.2.2.1) :: kI (v.1.2.2.2) :: tl) := inferInstanceAs (EncCells (eC (fun v : RrT => (v.1, ())) (eP eFd eU)) v tl _)
instance {v : RrT} : Norm eRr v (kRd eRr v) := ⟨fun h => h⟩
instance {v : RrT} : FieldP eRr v 0 eFd (v.1) 0 := inferInstanceAs (FieldP (eC (fun v : RrT => (v.1, ())) (eP eFd eU)) v 0 _ _ _)
instance {ks r : List Know} {f : FdT} [h : RdOf ks (eP eFd eU) (f, ()) r] : RdOf ks eRr ((f, ())) r := ⟨fun h' => h.imp h'⟩
def rch (p : List Int) : List (List (List Int)) := (p.map fun c => [c]) :: ((drv p).map fun c => [c]) :: ((chF 5 p (drv p)).map fun (q : List Int) => q.map lstZ)
theorem rch_len {p : List Int} : (rch p).length = (chS p).length := by unfold rch chS; simp
theorem one_val {xs : List Int} : ((xs.map fun c => [c]).map val) = xs := by
 rw [List.map_map]
 conv => rhs; rw [← List.map_id xs]
 exact List.map_congr_left fun c _ => val_one
theorem rch_val {p : List Int} {j : Nat} (hj : j < (chS p).length) : (nth (rch p) j).map val = nth (chS p) j := by
 match j, hj with
 | 0, _ => exact one_val
 | 1, _ => exact one_val
 | j + 2, hj =>
  have hl : j < (chF 5 p (drv p)).length := by unfold chS at hj; simpa using hj
  show (nth ((chF 5 p (drv p)).map fun (q : List Int) => q.map lstZ) j).map val = nth (chF 5 p (drv p)) j
  have e : nth ((chF 5 p (drv p)).map fun (q : List Int) => q.map lstZ) j = (nth (chF 5 p (drv p)) j).map lstZ := by simp [nth, hl]
  rw [e, map_lst_val]
theorem rch_at {p : List Int} {j : Nat} (h2 : 2 ≤ j) (hj : j < (chS p).length) : nth (rch p) j = (nth (chS p) j).map lstZ := by
 match j, h2, hj with
 | j + 2, _, hj =>
  have hl : j < (chF 5 p (drv p)).length := by unfold chS at hj; simpa using hj
  show nth ((chF 5 p (drv p)).map fun (q : List Int) => q.map lstZ) j = (nth (chF 5 p (drv p)) j).map lstZ
  simp [nth, hl]
theorem one_ok {xs : List Int} {B : Nat} (hx : ∀ i, (nth xs i).natAbs ≤ 5000) (hB : 1 ≤ B) : LOk B (xs.map fun c => [c]) := fun i => by
 by_cases hi : i < xs.length
 ·have e : nth (xs.map fun c => [c]) i = [nth xs i] := by simp [nth, hi]
  rw [e, val_one]
  have := hx i
  exact ⟨in1 zo, hB, Nat.le_trans (dl_le (k := 1) (by simp [BP]; omega)) hB⟩
 ·rw [nth_out (by rw [List.length_map]; omega)]
  exact ⟨inI_nil, Nat.zero_le _, by show dl (val []) ≤ _; rw [val_nil, dl_zero.2 rfl]; omega⟩
section
variable {p : List Int} (h3 : 3 ≤ p.length) (h5 : p.length ≤ 5) (h1 : nth p (p.length - 1) = 1) (hs : ∀ i, (nth p i).natAbs ≤ 1000)
include h3 h5 h1 hs
theorem drv_bd (i : Nat) : (nth (drv p) i).natAbs ≤ 5000 := by
 by_cases hi : i < p.length - 1
 ·rw [drv_nth hi]; have := h3; have := h1; exact mul_ab (m := 1000) (n := 5) (hs _) zo
 ·rw [nth_out (by rw [drv_len]; omega)]; show (0 : Int).natAbs ≤ _; omega
theorem rch_ok {j : Nat} (hj : j < (chS p).length) : (nth (rch p) j).length + j ≤ p.length ∧ LOk 1681 (nth (rch p) j) := by
 have hl := congrArg List.length (rch_val hj)
 rw [List.length_map] at hl
 obtain ⟨q1, q2, q3⟩ := chS_el h3 h5 h1 hs hj
 refine ⟨by omega, ?_⟩
 match j, hj with
 | 0, _ => exact one_ok (fun i => Nat.le_trans (hs i) zo) zo
 | 1, _ => exact one_ok (drv_bd h3 h5 h1 hs) zo
 | j + 2, hj => rw [rch_at zo hj]; exact lstL_ok q3
theorem rch_dec {m : Nat} (h2 : 2 ≤ m) (hm : m ≤ (chS p).length) : 1 ≤ (nth (rch p) (m - 1)).length ∧ (nth (rch p) (m - 1)).length ≤ (nth (rch p) (m - 2)).length := by
 have e1 := congrArg List.length (rch_val (p := p) (j := m - 1) zo)
 have e2 := congrArg List.length (rch_val (p := p) (j := m - 2) zo)
 rw [List.length_map] at e1 e2
 have n1 := List.length_pos_iff.2 (chS_ne h3 h5 h1 (m := m - 1) zo)
 refine ⟨by omega, ?_⟩
 rw [e1, e2]
 by_cases h : m = 2
 ·subst h
  show (drv p).length ≤ p.length
  rw [drv_len]; omega
 ·obtain ⟨hq, _⟩ := chS_next h3 h5 h1 (m := m - 1) zo zo
  rw [if_pos zo] at hq
  rw [← hq, show m - 1 - 1 = m - 2 by omega]
  obtain ⟨a1, a2, a3⟩ := chS_el h3 h5 h1 hs (j := m - 1 - 2) zo
  obtain ⟨b1, b2, b3⟩ := chS_el h3 h5 h1 hs (j := m - 2) zo
  have n2 := List.length_pos_iff.2 (chS_ne h3 h5 h1 (m := m - 2) zo)
  have := (against_ok n2 a1 a3 b3 zo).2.1
  omega
end
theorem rch_sg {p : List Int} {a b : List Int} : ((rch p).map fun (q : List (List Int)) => sgn (hvP (val a) (val b) (q.map val)).1) = sgCh p (val a) (val b) := by
 unfold sgCh
 refine ext_nth (by rw [List.length_map, List.length_map, rch_len]) fun i hi => ?_
 rw [List.length_map, rch_len] at hi
 have e1 : nth ((rch p).map fun (q : List (List Int)) => sgn (hvP (val a) (val b) (q.map val)).1) i = sgn (hvP (val a) (val b) ((nth (rch p) i).map val)).1 := by simp [nth, rch_len, hi]
 have e2 : nth ((chS p).map fun q => sgn (hvP (val a) (val b) q).1) i = sgn (hvP (val a) (val b) (nth (chS p) i)).1 := by simp [nth, hi]
 rw [e1, e2, rch_val hi]
theorem neg_RL {a b : List Int} {RL : List (List Int)} (h : RL = (agF b a.length a).map lstZ) : (tab RL.length fun j => lstZ (-val (nth RL j))) = (against a b).map lstZ := by
 subst h
 unfold against
 rw [List.length_map]
 refine ext_nth (by rw [tab_len, List.length_map, List.length_map]) fun i hi => ?_
 rw [tab_len] at hi
 rw [nth_tab hi]
 have e1 : nth ((agF b a.length a).map lstZ) i = lstZ (nth (agF b a.length a) i) := by simp [nth, hi]
 have e2 : nth (((agF b a.length a).map fun z => -z).map lstZ) i = lstZ (-nth (agF b a.length a) i) := by simp [nth, hi]
 rw [e1, e2, lst_val]
def rtsF (f : FdT) : Int := if f.1.length = 2 then (if f.2.1 ≤ -nth f.1 0 * f.2.2.2 ∧ -nth f.1 0 * f.2.2.2 ≤ f.2.2.1 then 1 else 0) else ((chg (sgCh f.1 f.2.1 f.2.2.2)).1 : Int) - (chg (sgCh f.1 f.2.2.1 f.2.2.2)).1
theorem rtsF_one {f : FdT} : rtsF f = 1 ↔ oneB f = true := by
 unfold rtsF oneB
 split
 ·rw [decide_eq_true_eq]; split <;> simp_all
 ·rw [decide_eq_true_eq]
theorem take_map1 {xs : List Int} {k : Nat} (hk : k < xs.length) : (xs.map fun c => [c]).take k ++ [[nth xs k]] = (xs.map fun c => [c]).take (k + 1) := by
 rw [← List.map_take, ← List.map_take, take_succ_nth hk, List.map_append]; rfl
theorem drv_take1 {p : List Int} {k : Nat} (h1 : 1 ≤ k) (hk : k < p.length) : ((drv p).map fun c => [c]).take (k - 1) ++ [[(k : Int) * nth p k]] = ((drv p).map fun c => [c]).take k := by
 rw [← List.map_take, ← List.map_take, ← drv_take h1 hk, List.map_append, Int.mul_comm]; rfl
set_option maxHeartbeats 2000000 in
theorem ct_rRoots (f : FdT) (h2' : 2 ≤ f.1.length) (h5' : f.1.length ≤ 5) (h1' : nth f.1 (f.1.length - 1) = 1) (hs : ∀ i, (nth f.1 i).natAbs ≤ 1000) (hd : 1 ≤ f.2.2.2 ∧ f.2.2.2 ≤ 1000000) (hlo : -1000000 ≤ f.2.1 ∧ f.2.1 ≤ 1000000) (hhi : -1000000 ≤ f.2.2.1 ∧ f.2.2.1 ≤ 1000000) : Ct Tryz.prog 127 [kRd eFd f] (kI (rtsF f)) := by
 have hm0 : (-nth f.1 0 * f.2.2.2).natAbs ≤ 1000 * 1000000 := mul_ab (by rw [Int.natAbs_neg]; exact hs 0) zo
 have hs0 := hs 0
 refine Ct.mk Tryz.func127 rfl Tryz.ntmps127 rfl (fun w J => ?_); refine jx2 ?_; refine jb 1 rfl ?_; refine jx5 ?_; refine Tr.frzB 1 [1] eFd (x := f) ⟨rfl, trivial⟩ rfl ?_; refine jn ?_; refine jx7 ?_; refine jq ?_ ?_
 ·intro h1
  have hl2 : f.1.length = 2 := by omega
  refine jx2 ?_; refine Tr.draw 22 mixed (by kernel_rfl) ?_; refine jx2 ?_; refine rO (ok_idxN (i := 0) rfl uu rfl uu rfl (fun _ => zo)) rfl rfl ?_; refine jx1 ?_; refine rO (ok_neg rfl uu (fun _ => zo)) rfl rfl ?_; refine jx9 ?_; refine RunD.gd rfl rfl rfl (ok_idxN (i := 0) rfl id rfl uu rfl (fun _ => zo)) rfl rfl ?_; refine jx1 ?_; refine RunD.gd rfl rfl rfl (ok_neg rfl id (fun hp => by simp at hp; omega)) rfl rfl ?_; refine jx2 ?_; refine RunD.gd rfl rfl rfl (ok_mul rfl id rfl id (fun hp => by simp at hp; omega)) rfl rfl ?_; refine jx7 ?_; refine Tr.cnd rfl ?_ ?_
  ·intro h2
   have hr : rtsF f = 1 := by unfold rtsF; rw [if_pos hl2, if_pos (by simpa using h2)]
   refine jx8 ?_; exact Rts.res1 (fn := Tryz.f127) rfl (.i rfl (by rw [hr]) <| .nil)
  ·intro h2
   have hr : rtsF f = 0 := by unfold rtsF; rw [if_pos hl2, if_neg (fun e => by simp [e.1, e.2] at h2)]
   refine jx9 ?_; exact Rts.res1 (fn := Tryz.f127) rfl (.i rfl (by rw [hr]) <| .nil)
 ·intro h1
  have h3' : 3 ≤ f.1.length := by omega
  have hL5 := chS_len h3' h5' h1' hs
  have hL2 : 2 ≤ (chS f.1).length := by unfold chS; simp
  have hel := fun (j : Nat) (hj : j < (chS f.1).length) => rch_ok h3' h5' h1' hs hj
  have hrl := rch_len (p := f.1)
  have hdl := drv_len (p := f.1)
  have hcl : ∀ a : Int, (chg (sgCh f.1 a f.2.2.2)).1 ≤ 5 := fun a => by have := chg_le (l := sgCh f.1 a f.2.2.2); unfold sgCh at this ⊢; rw [List.length_map] at this; omega
  have hc1 := hcl f.2.1
  have hc2 := hcl f.2.2.1
  have hov : dl f.2.1 ≤ 1 := dl_le (by simp [BP]; omega)
  have hov2 : dl f.2.2.1 ≤ 1 := dl_le (by simp [BP]; omega)
  have hov3 : dl f.2.2.2 ≤ 1 := dl_le (by simp [BP]; omega)
  refine jx14 ?_; refine Tr.grow (s := 3) rfl rfl 33 rfl 22 (eL eI) rfl ?_; refine Tr.grow (s := 4) rfl rfl 44 rfl 22 (eL eI) rfl ?_
  refine Tr.for1 (σ := Nat) [⟨1, true, _, _⟩] [] (fun k => [⟨3, true, [33], kOsl 33 k⟩, ⟨4, true, [44], kOsl 44 (k - 1)⟩, ⟨5, true, [], kI (k : Int)⟩]) (fun k => [⟨33, [], cArr true 22 (eL eI) ((f.1.map fun c => [c]).take k) k⟩, ⟨44, [], cArr true 22 (eL eI) (((drv f.1).map fun c => [c]).take (k - 1)) (k - 1)⟩]) (fun k => k ≤ f.1.length) (fun k => k = f.1.length) (fun k => f.1.length - k) (0) zi (Ent.mk (.o rfl zi rfl <| .o rfl zi rfl <| .i rfl zi <| zk) (.a (by rfl) zi <| .a (by rfl) zi <| .nil) rfl) ?_ ?_
  ·intro k hR0
   refine jn ?_
   have hsk := hs k
   have hkm : ((k : Int) * nth f.1 k).natAbs ≤ 6 * 1000 := mul_ab zo hsk
   refine jx10 ?_; refine jq ?_ ?_
   ·intro h7
    refine jx12 ?_; refine tO (ok_bslJ eI (fun hp => .cons rfl <| .nil) rfl rfl rfl rfl) rfl rfl ?_; refine TrL.new (ok_bsl (eL eI) 52 (fun hp => .cons rfl <| .nil) rfl rfl rfl rfl) rfl rfl rfl rfl ?_; refine jx1 ?_; refine jl ?_; refine jx9 ?_; refine jq ?_ ?_
    ·intro h10
     refine jx9 ?_; refine tO (ok_bslJ eI (fun hp => .cons rfl <| .nil) rfl rfl rfl rfl) rfl rfl ?_; refine TrL.new (ok_bsl (eL eI) 65 (fun hp => .cons rfl <| .nil) rfl rfl rfl rfl) rfl rfl rfl rfl ?_; refine jx1 ?_; refine jl ?_; refine jx9 ?_
     exact End.lp (k + 1) zi zo (Ent.mk (.o rfl zi rfl <| .o rfl (by simp only [List.length_cons, List.length_nil]; omega) rfl <| .i rfl zi <| zk) (.a (take_map1 zo) zi <| .a (by rw [drv_take1 zo zo, Nat.add_sub_cancel]) (by simp only [List.length_cons, List.length_nil]; omega) <| .nil) rfl)
    ·intro h10
     replace h10 := Int.not_lt.1 h10
     refine jx8 ?_
     exact End.lp (k + 1) zi zo (Ent.mk (.o rfl zi rfl <| .o rfl zo rfl <| .i rfl zi <| zk) (.a (take_map1 zo) zi <| .a (by rw [show k = 0 by omega]) zo <| .nil) rfl)
   ·intro h7
    replace h7 := Int.not_lt.1 h7
    refine jx4 ?_
    exact End.cut (k) zo (Ent.mk (.o rfl zi rfl <| .o rfl zi rfl <| .i rfl zi <| zk) (zk) rfl)
  ·rintro k hkn
   refine je ?_
   have htk1 : (f.1.map fun c => [c]).take k = f.1.map fun c => [c] := List.take_of_length_le (by rw [List.length_map]; omega)
   have htk2 : ((drv f.1).map fun c => [c]).take (k - 1) = (drv f.1).map fun c => [c] := List.take_of_length_le (by rw [List.length_map, drv_len]; omega)
   rw [htk1, htk2]
   refine jx2 ?_; refine Tr.frz 33 [3] ⟨rfl, trivial⟩ (by simp only [lenMax]; omega) rfl ?_; refine Tr.frz 44 [4] ⟨rfl, trivial⟩ (by simp only [lenMax]; omega) rfl ?_; refine jn ?_; refine jx3 ?_; refine TrL.new (ok_bsl (eL (eL eI)) 69 (fun hp => .cons rfl <| .cons rfl <| .nil) rfl rfl rfl rfl) rfl rfl rfl rfl ?_; refine jx3 ?_
   refine Tr.for (σ := Nat) [⟨1, true, _, _⟩] [] (fun m => [⟨6, true, [69], kOsl 69 m⟩]) (fun m => [⟨69, [], cArr false 173 (eL (eL eI)) ((rch f.1).take m) m⟩]) (fun m => 2 ≤ m ∧ m ≤ (chS f.1).length) (fun m => m = (chS f.1).length) (fun m => (chS f.1).length - m) (2) ⟨Nat.le_refl _, hL2⟩ (Ent.mk (.o rfl zi rfl <| zk) (.a (by rfl) zi <| .nil) rfl) ?_ ?_
   ·intro m hR1
    refine jn ?_
    have hX : nth ((rch f.1).take m) ((m : Int) - 2).toNat = nth (rch f.1) (m - 2) := by rw [show ((m : Int) - 2).toNat = m - 2 by omega]; exact nth_takeG zo
    have hY : nth ((rch f.1).take m) ((m : Int) - 1).toNat = nth (rch f.1) (m - 1) := by rw [show ((m : Int) - 1).toNat = m - 1 by omega]; exact nth_takeG zo
    have hdec := rch_dec h3' h5' h1' hs hR1.1 hR1.2
    have hvl : (nth (rch f.1) (m - 2)).length = (nth (chS f.1) (m - 2)).length := by have := congrArg List.length (rch_val (p := f.1) (j := m - 2) zo); rwa [List.length_map] at this
    have hrv1 := rch_val (p := f.1) (j := m - 1) zo
    have hrv2 := rch_val (p := f.1) (j := m - 2) zo
    have e1 := hel (m - 2) zo
    have e2 := hel (m - 1) zo
    refine jx2 ?_; refine Tr.draw 12 mixed (by kernel_rfl) ?_; refine jx2 ?_; refine rO (ok_lenO rfl uu) rfl rfl ?_; refine jx3 ?_
    rw [hX]
    refine jx2 ?_; refine rO (ok_lenO rfl uu) rfl rfl ?_; refine jx3 ?_
    rw [hY]
    refine jx1 ?_; refine jc (ct_rrest (nth (rch f.1) (m - 2)) (nth (rch f.1) (m - 1)) 1681 1681 e1.2 e2.2 hdec.1 hdec.2 zo zo zo) ?_; refine jx11 ?_; refine jq ?_ ?_
    ·intro h14
     rw [hrv1, hrv2, hvl] at h14
     have hmL : m = (chS f.1).length := Classical.byContradiction fun e => by have hq := chS_next h3' h5' h1' hR1.1 hR1.2; rw [if_pos zo] at hq; have := List.length_pos_iff.2 (hq.2 zo); rw [← hq.1] at this; unfold against at this; rw [List.length_map] at this; rw [List.length_map] at h14; omega
     refine jx5 ?_
     exact End.cut (m) hmL (Ent.mk (.o rfl zi rfl <| zk) (zk) rfl)
    ·intro h14
     have hq := chS_next h3' h5' h1' hR1.1 hR1.2
     rw [hrv1, hrv2, hvl] at h14
     have hmL : m < (chS f.1).length := Classical.byContradiction fun e => by rw [if_neg e] at hq; have hq2 := congrArg List.length hq.1; unfold against at hq2; rw [List.length_map, List.length_nil] at hq2; rw [List.length_map] at h14; omega
     rw [if_pos hmL] at hq
     obtain ⟨RL, hRL⟩ : ∃ RL, RL = (agF ((nth (rch f.1) (m - 1)).map val) (nth (rch f.1) (m - 2)).length ((nth (rch f.1) (m - 2)).map val)).map lstZ := ⟨_, rfl⟩
     rw [← hRL]
     have hag2 := against_ok (A := 1681) (B := 1681) (by have := hdec.1; have := congrArg List.length hrv1; rw [List.length_map] at this; omega) (chS_el h3' h5' h1' hs (j := m - 2) zo).1 (chS_el h3' h5' h1' hs (j := m - 2) zo).2.2 (chS_el h3' h5' h1' hs (j := m - 1) zo).2.2 (by have := (chS_el h3' h5' h1' hs (j := m - 2) zo).2.1; omega)
     rw [hrv1, hrv2, hvl] at hRL
     have hRo : LOk 18500 RL := by rw [hRL]; refine lstL_ok fun i => ?_; have := hag2.2.2 i; unfold against at this; rw [nth_neg, dl_neg] at this; omega
     have hRn : (tab RL.length fun j => lstZ (-val (nth RL j))) = nth (rch f.1) m := by rw [rch_at zo hmL, ← hq.1]; exact neg_RL hRL
     have hRl5 : RL.length ≤ 5 := by rw [hRL, List.length_map]; have := hag2.2.1; unfold against at this; rw [List.length_map] at this; have := (chS_el h3' h5' h1' hs (j := m - 1) zo).2.1; omega
     refine jx13 ?_; refine Tr.grow (s := 8) rfl rfl 88 rfl 22 (eL eI) rfl ?_
     refine Tr.for1 (σ := Nat) [⟨1, true, _, _⟩, ⟨6, true, _, _⟩, ⟨7, true, _, _⟩] [⟨69, _, _⟩] (fun k => [⟨8, true, [88], kOsl 88 k⟩, ⟨9, true, [], kI (k : Int)⟩]) (fun k => [⟨88, [], cArr true 22 (eL eI) (tab k fun j => lstZ (-val (nth RL j))) k⟩]) (fun k => k ≤ RL.length) (fun k => k = RL.length) (fun k => RL.length - k) (0) zi (Ent.mk (.o rfl zi rfl <| .i rfl zi <| zk) (.a (by rfl) zi <| zk) rfl) ?_ ?_
     ·intro k hR2
      refine jn ?_
      have hRk := hRo k
      refine jx9 ?_; refine jq ?_ ?_
      ·intro h17
       refine jx10 ?_; refine jc (ct_rNeg (nth RL k) hRk.1 (by have := hRk.2.1; omega)) ?_; refine TrL.new (ok_bsl (eL eI) 98 (fun hp => .cons rfl <| .nil) rfl rfl rfl rfl) rfl rfl rfl rfl ?_; refine jx1 ?_; refine jl ?_; refine jx9 ?_
       exact End.lp (k + 1) zi zo (Ent.mk (.o rfl zi rfl <| .i rfl zi <| zk) (.a tab_succ.symm zi <| zk) rfl)
      ·intro h17
       replace h17 := Int.not_lt.1 h17
       refine jx4 ?_
       exact End.cut (k) zo (Ent.mk (.o rfl zi rfl <| .i rfl zi <| zk) (zk) rfl)
     ·rintro k hkR
      refine je ?_
      rw [hkR]
      refine jx1 ?_; refine Tr.frz 88 [8] ⟨rfl, trivial⟩ (by simp only [lenMax]; omega) rfl ?_; refine jn ?_; refine jx3 ?_; refine TrL.new (ok_bsl (eL (eL eI)) 102 (fun hp => .cons rfl <| .nil) rfl rfl rfl rfl) rfl rfl rfl rfl ?_; refine jx1 ?_; refine jl ?_; refine jx3 ?_
      exact End.lp (m + 1) zi zo (Ent.mk (.o rfl zi rfl <| zk) (.a (by rw [hRn, take_succ_nth zo]) zi <| .nil) rfl)
   ·rintro m hmL
    refine jn ?_
    have htk : (rch f.1).take m = rch f.1 := List.take_of_length_le zo
    rw [htk]
    refine jx1 ?_; refine Tr.frz 69 [6] ⟨rfl, trivial⟩ (by simp only [lenMax]; omega) rfl ?_; refine jn ?_; refine Tr.draw 15 mixed (by kernel_rfl) ?_; refine jx3 ?_; refine rO (ok_bslJ eI (fun hp => .cons rfl <| .nil) rfl rfl rfl rfl) rfl rfl ?_; refine jx2 ?_; refine rO (ok_bslJ eI (fun hp => .cons rfl <| .nil) rfl rfl rfl rfl) rfl rfl ?_; refine jd (ct_rchanges (rch f.1) [f.2.1] [f.2.2.2] zo (fun j hj => ⟨by have := (hel j zo).1; omega, (hel j zo).2.mono zo⟩) ⟨in1 zo, by show 1 ≤ 4; omega⟩ ⟨in1 zo, by show 1 ≤ 4; omega⟩ (by rw [val_one]; omega) (by rw [val_one]; omega)) ?_
    rw [rch_sg, val_one, val_one]
    refine jx3 ?_; refine rO (ok_bslJ eI (fun hp => .cons rfl <| .nil) rfl rfl rfl rfl) rfl rfl ?_; refine jx2 ?_; refine rO (ok_bslJ eI (fun hp => .cons rfl <| .nil) rfl rfl rfl rfl) rfl rfl ?_; refine jx1 ?_; refine jc (ct_rchanges (rch f.1) [f.2.2.1] [f.2.2.2] zo (fun j hj => ⟨by have := (hel j zo).1; omega, (hel j zo).2.mono zo⟩) ⟨in1 zo, by show 1 ≤ 4; omega⟩ ⟨in1 zo, by show 1 ≤ 4; omega⟩ (by rw [val_one]; omega) (by rw [val_one]; omega)) ?_
    rw [rch_sg, val_one, val_one]
    refine jx5 ?_; exact Rts.res1 (fn := Tryz.f127) rfl (.i rfl (by unfold rtsF; rw [if_neg zo]) <| .nil)

end Go.Fl

/- Contracts: fields of the reference: errors, opening. -/
namespace Go.Fl
open Go Go.Proofs
open TrL renaming op → tO
open RunD renaming op → rO
set_option maxRecDepth 100000

theorem any_out {p : List Int} {k : Nat} (hk : k < p.length) (h : ¬ (-1000 ≤ nth p k ∧ nth p k ≤ 1000)) : p.any outCf = true := by
 refine List.any_eq_true.2 ⟨nth p k, nth_mem hk, ?_⟩
 unfold outCf
 rw [decide_eq_false h]; rfl
theorem not_any_out {p : List Int} (h : ∀ i, i < p.length → -1000 ≤ nth p i ∧ nth p i ≤ 1000) : p.any outCf ≠ true := fun e => by
 obtain ⟨x, hx, h2⟩ := List.any_eq_true.1 e
 obtain ⟨i, hi, rfl⟩ := List.mem_iff_getElem.1 hx
 have := h i hi
 have e1 : nth p i = p[i] := by simp [nth, hi]
 rw [e1] at this
 unfold outCf at h2
 rw [decide_eq_true this] at h2
 cases h2
theorem ct_rwithin (n a b : Int) : Ct Tryz.prog 125 [kI n, kI a, kI b] (kB (decide (a ≤ n ∧ n ≤ b))) := by
 refine Ct.mk Tryz.func125 rfl Tryz.ntmps125 rfl (fun w J => ?_); refine jx19 ?_; exact Rts.res1 (fn := Tryz.f125) rfl (.b rfl (by symm; exact Bool.decide_and _ _) <| .nil)

theorem ct_rCheck1 (f : FdT) : Ct Tryz.prog 74 [kRd eFd f] (kI (chkF f)) := by
 refine Ct.mk Tryz.func74 rfl Tryz.ntmps74 rfl (fun w J => ?_); refine jx2 ?_; refine jb 1 rfl ?_; refine jx4 ?_; refine Tr.frzB 1 [1] eFd (x := f) ⟨rfl, trivial⟩ rfl ?_; refine jn ?_; refine jx18 ?_; refine Tr.cnd rfl ?_ ?_
 ·intro h2
  have hc1 : ¬ (2 ≤ f.1.length ∧ f.1.length ≤ 5) := by simp at h2; omega
  have he : chkF f = 10 := if_pos hc1
  refine jx7 ?_; exact Rts.res1 (fn := Tryz.f74) rfl (.i rfl (by rw [he]) <| .nil)
 ·intro h2
  have hc1 : 2 ≤ f.1.length ∧ f.1.length ≤ 5 := by simp at h2; omega
  have he1 := (if_neg (fun e => e hc1) : chkF f = _)
  refine jx8 ?_
  refine Tr.for1 (σ := Nat) [⟨1, true, _, _⟩, ⟨3, true, _, _⟩] [] (fun k => [⟨4, true, [], kI (k : Int)⟩]) (fun k => []) (fun k => k ≤ f.1.length ∧ ∀ i, i < k → -1000 ≤ nth f.1 i ∧ nth f.1 i ≤ 1000) (fun k => ∀ i, i < f.1.length → -1000 ≤ nth f.1 i ∧ nth f.1 i ≤ 1000) (fun k => f.1.length - k) (0) ⟨by omega, fun i h => absurd h (Nat.not_lt_zero _)⟩ (Ent.mk (.i rfl zi <| zk) (.nil) rfl) ?_ ?_
  ·rintro k ⟨hk, hR⟩
   refine jn ?_; refine jx8 ?_; refine jq ?_ ?_
   ·intro h5
    refine jx11 ?_; refine tO (ok_call (fun hp => ct_rwithin _ _ _) (.a rfl uu <| .a rfl uu <| .a rfl uu <| .nil)) rfl rfl ?_; refine jx3 ?_; refine Tr.cnd rfl ?_ ?_
    ·intro h7
     have he : chkF f = 2 := he1.trans (if_pos (any_out (k := k) zo (by simp at h7; omega)))
     refine jx12 ?_; exact Rts.res1 (fn := Tryz.f74) rfl (.i rfl (by rw [he]) <| .nil)
    ·intro h7
     have hok : -1000 ≤ nth f.1 k ∧ nth f.1 k ≤ 1000 := by simp at h7; omega
     refine jx8 ?_
     exact End.lp (k + 1) ⟨by omega, fun i hi => by by_cases e : i = k; (rw [e]; exact hok); exact hR i zo⟩ zo (Ent.mk (.i rfl zi <| zk) (.nil) rfl)
   ·intro h5
    replace h5 := Int.not_lt.1 h5
    refine jx4 ?_
    exact End.cut (k) (fun i hi => hR i zo) (Ent.mk (.i rfl zi <| zk) (.nil) rfl)
  ·intro k hE
   refine je ?_
   have hc2 := not_any_out hE
   have hs := outCf_ok hc2
   have he2 := he1.trans (if_neg hc2)
   refine jx6 ?_; refine tO (ok_call (fun hp => ct_rwithin _ _ _) (.a rfl uu <| .a rfl uu <| .a rfl uu <| .nil)) rfl rfl ?_; refine jx4 ?_; refine TrL.gd rfl rfl rfl (ok_call (fun hp => ct_rwithin _ _ _) (.a rfl id <| .a rfl uu <| .a rfl uu <| .nil)) rfl rfl ?_; refine jx5 ?_; refine TrL.gd rfl rfl rfl (ok_call (fun hp => ct_rwithin _ _ _) (.a rfl id <| .a rfl uu <| .a rfl uu <| .nil)) rfl rfl ?_; refine jx4 ?_; refine Tr.cnd rfl ?_ ?_
   ·intro h9
    have hc3 : ¬ ((1 ≤ f.2.2.2 ∧ f.2.2.2 ≤ 1000000) ∧ (-1000000 ≤ f.2.1 ∧ f.2.1 ≤ 1000000) ∧ (-1000000 ≤ f.2.2.1 ∧ f.2.2.1 ≤ 1000000)) := fun ⟨q1, q2, q3⟩ => by simp [q1, q2, q3] at h9
    have he : chkF f = 2 := he2.trans (if_pos hc3)
    refine jx7 ?_; exact Rts.res1 (fn := Tryz.f74) rfl (.i rfl (by rw [he]) <| .nil)
   ·intro h9
    have hc3 : (1 ≤ f.2.2.2 ∧ f.2.2.2 ≤ 1000000) ∧ (-1000000 ≤ f.2.1 ∧ f.2.1 ≤ 1000000) ∧ (-1000000 ≤ f.2.2.1 ∧ f.2.2.1 ≤ 1000000) := by simp at h9; omega
    have he3 := he2.trans (if_neg (fun e => e hc3))
    refine jx5 ?_
    have hix : ((f.1.length : Int) - 1).toNat = f.1.length - 1 := by omega
    refine jx10 ?_; refine TrL.gd rfl rfl rfl (ok_call (fun hp => ct_rReducible f.1 hc1.1 hc1.2 hs) (.a rfl id <| .nil)) rfl rfl ?_; refine jx3 ?_; refine Tr.cnd rfl ?_ ?_
    ·intro h11
     have hc4 : nth f.1 (f.1.length - 1) ≠ 1 ∨ redB f.1 = true := by simp [hix] at h11; simpa using h11
     have he : chkF f = 3 := he3.trans (if_pos hc4)
     refine jx7 ?_; exact Rts.res1 (fn := Tryz.f74) rfl (.i rfl (by rw [he]) <| .nil)
    ·intro h11
     have hc4 : nth f.1 (f.1.length - 1) = 1 ∧ redB f.1 = false := by simp [hix] at h11; simpa using h11
     have he4 := he3.trans (if_neg (fun e => e.elim (fun e => e hc4.1) (fun e => by rw [hc4.2] at e; cases e)))
     refine jx12 ?_; refine jq ?_ ?_
     ·intro h13
      have he : chkF f = 9 := he4.trans (if_pos h13)
      refine jx7 ?_; exact Rts.res1 (fn := Tryz.f74) rfl (.i rfl (by rw [he]) <| .nil)
     ·intro h13
      replace h13 := Int.not_lt.1 h13
      have he5 := he4.trans (if_neg (show ¬ f.2.1 > f.2.2.1 by omega))
      refine jx6 ?_; refine jc (ct_rRoots f hc1.1 hc1.2 hc4.1 hs hc3.1 hc3.2.1 hc3.2.2) ?_; refine jx3 ?_; refine jq ?_ ?_
      ·intro h15
       have hc6 : oneB f = false := Bool.eq_false_iff.2 (fun e => h15 (rtsF_one.2 e))
       have he : chkF f = 11 := he5.trans (if_pos hc6)
       refine jx7 ?_; exact Rts.res1 (fn := Tryz.f74) rfl (.i rfl (by rw [he]) <| .nil)
      ·intro h15
       replace h15 := Classical.not_not.1 h15
       have hc6 : oneB f = true := rtsF_one.1 h15
       have he : chkF f = 0 := he5.trans (if_neg (by rw [hc6]; decide))
       refine jx8 ?_; exact Rts.res1 (fn := Tryz.f74) rfl (.i rfl (by rw [he]) <| .nil)

theorem ct_rOpen (f : FdT) (h0 : chkF f = 0) : Ct Tryz.prog 24 [kRd eFd f] (kTup [kRd eRr (f, ()), kI 0]) := by
 obtain ⟨⟨c1, _⟩, _⟩ := chkF_0 h0
 refine Ct.mk Tryz.func24 rfl Tryz.ntmps24 rfl (fun w J => ?_); refine jx2 ?_; refine jb 1 rfl ?_; refine ja 2 ?_; refine jx7 ?_; refine jc (ct_rCheck1 f) ?_; refine jx9 ?_; refine Tr.cnd rfl ?_ ?_
 ·intro h2
  exact absurd h0 (of_decide_eq_true h2)
 ·intro h2
  refine jx4 ?_; refine TrL.new (ok_bsl0 eI 11) rfl rfl rfl rfl ?_; refine jx3 ?_; refine jl ?_; refine jx7 ?_; refine tO (ok_build (fun hp => .cons rfl rfl rfl <| .nil)) rfl rfl ?_; refine jx4 ?_; refine Tr.ent (S' := [⟨2, true, _, _⟩, ⟨3, true, _, _⟩]) (M' := [⟨2, _, _⟩, ⟨11, _, _⟩]) (Ent.mk (zk) (zk) rfl) ?_; refine Tr.frzC 11 2 (by simp only [lenMax]; omega) rfl rfl ?_; refine jx1 ?_; exact Rts.resC (fn := Tryz.f24) (ts := [3]) rfl rfl rfl (aggRd rfl (by rfl)) (.i rfl (by rfl) <| .nil)

theorem ct_rOpenE (f : FdT) (h0 : chkF f ≠ 0) : Ct Tryz.prog 24 [kRd eFd f] (kTup [kRd eRr (([], 0, 0, 0), ()), kI (chkF f)]) := by
 refine Ct.mk Tryz.func24 rfl Tryz.ntmps24 rfl (fun w J => ?_); refine jx2 ?_; refine jb 1 rfl ?_; refine ja 2 ?_; refine jx7 ?_; refine jc (ct_rCheck1 f) ?_; refine jx9 ?_; refine Tr.cnd rfl ?_ ?_
 ·intro h2
  refine jx2 ?_; refine tO (ok_build (fun hp => .nil)) rfl rfl ?_; refine jx7 ?_; exact Rts.resC (fn := Tryz.f24) (ts := [3]) rfl rfl rfl (aggRd rfl (by rfl)) (.i rfl (by rfl) <| .nil)
 ·intro h2
  exact absurd (of_decide_eq_false h2) (fun e => e h0)

theorem ct_rDegree (f : FdT) (hn : 2 ≤ f.1.length ∧ f.1.length ≤ 5) : Ct Tryz.prog 144 [kRd eRr (f, ())] (kI ((f.1.length : Int) - 1)) := by
 have hff : ((f, ()) : RrT).1.1.length = f.1.length := rfl
 refine Ct.mk Tryz.func144 rfl Tryz.ntmps144 rfl (fun w J => ?_); refine jx2 ?_; refine jb 1 rfl ?_; refine jx14 ?_
 exact Rts.res1 (fn := Tryz.f144) rfl (.i rfl zi <| .nil)

end Go.Fl

/- Contracts: numbers of the reference: normal forms, sums, products. -/
namespace Go.Fl
open Go Go.Proofs
open TrL renaming op → tO
open RunD renaming op → rO
set_option maxRecDepth 100000

def stL (p : List Int) (ys : List (List Int)) (n i k : Nat) : List (List Int) := tab ys.length fun j => if i - n ≤ j ∧ j < i - n + k then lstZ (val (nth ys j) - val (nth ys i) * nth p (j - (i - n))) else nth ys j
theorem stL_len {p : List Int} {ys : List (List Int)} {n i k : Nat} : (stL p ys n i k).length = ys.length := tab_len
theorem stL_zero {p : List Int} {ys : List (List Int)} {n i : Nat} : ys = stL p ys n i 0 := by
 conv => lhs; rw [tab_nth (rfl : ys.length = ys.length)]
 exact tab_congr fun j _ => (if_neg zo).symm
theorem stL_out {p : List Int} {ys : List (List Int)} {n i k j : Nat} (hj : j < ys.length) (h : j < i - n ∨ i - n + k ≤ j) : nth (stL p ys n i k) j = nth ys j := by
 unfold stL
 rw [nth_tab hj, if_neg zo]
theorem stL_succ {p : List Int} {ys : List (List Int)} {n i k : Nat} (_ : k < n) (hn : n ≤ i) (_ : i < ys.length) : (stL p ys n i k).set (i - n + k) (lstZ (val (nth ys (i - n + k)) - val (nth ys i) * nth p k)) = stL p ys n i (k + 1) := by
 unfold stL
 rw [tab_set]
 refine tab_congr fun j hj => ?_
 by_cases e : j = i - n + k
 ·subst e
  rw [if_pos rfl, if_pos ⟨zo, zo⟩, Nat.add_sub_cancel_left]
 ·rw [if_neg e]
  by_cases h : i - n ≤ j ∧ j < i - n + k
  ·rw [if_pos h, if_pos ⟨h.1, by omega⟩]
  ·rw [if_neg h, if_neg zo]
theorem stL_take {p : List Int} {ys : List (List Int)} {n i : Nat} (hn : n ≤ i) (hi : i < ys.length) : (stL p ys n i n).take i = rd1L p n (ys.take (i + 1)) := by
 have hl : (ys.take (i + 1)).length = i + 1 := by rw [List.length_take]; omega
 have e1 : ((stL p ys n i n).take i).length = i := by rw [List.length_take, stL_len]; omega
 refine ext_nth (by rw [e1, rd1L_len, hl]; omega) fun j hj => ?_
 rw [e1] at hj
 unfold rd1L
 rw [hl, Nat.add_sub_cancel, nth_tab hj, nth_takeG hj, nth_takeG (show j < i + 1 by omega), nth_takeG (show i < i + 1 by omega)]
 unfold stL
 rw [nth_tab zo]
 by_cases h : i - n ≤ j
 ·rw [if_pos ⟨zo, zo⟩, if_pos h]
 ·rw [if_neg zo, if_neg h]
theorem rdF_go {p : List Int} {n m : Nat} {xs : List (List Int)} (hl : xs.length = m) (hm : n < m) : rdFL p n (m - n) xs = rdFL p n (m - 1 - n) (rd1L p n xs) := by
 obtain ⟨f, hf⟩ : ∃ f, m - n = f + 1 := ⟨m - n - 1, by omega⟩
 rw [hf, rdFL, if_neg zo, show m - 1 - n = f by omega]
theorem rdF_end {p : List Int} {n : Nat} {xs : List (List Int)} (hl : xs.length = n) : rdFL p n (n - n) xs = xs := by
 rw [Nat.sub_self, rdFL, hl, Nat.sub_self, List.replicate_zero, List.append_nil]
theorem rdc_pad {p : List Int} {c : List (List Int)} {n k L : Nat} (hn : p.length - 1 = n) (hk : k = n - c.length) (hL : L = c.length + k) : rdFL p n (L - n) ((c ++ List.replicate k []).take L) = rdcL p c := by
 unfold rdcL
 rw [hn, List.take_of_length_le (by simp; omega)]
 by_cases h : c.length ≤ n
 ·have e1 : n - (c ++ List.replicate k ([] : List Int)).length = 0 := by rw [List.length_append, List.length_replicate]; omega
  rw [show L - n = 0 by omega, show c.length - n = 0 by omega, rdFL, rdFL, e1, List.replicate_zero, List.append_nil, hk]
 ·rw [show k = 0 by omega, List.replicate_zero, List.append_nil, hL, show k = 0 by omega, Nat.add_zero]
theorem stL_ok {p : List Int} {ys : List (List Int)} {n i k B : Nat} (hy : LOk B ys) (hp : ∀ j, dl (nth p j) ≤ 1) : LOk (B + 2) (stL p ys n i k) := fun j => by
 by_cases hj : j < ys.length
 ·unfold stL
  rw [nth_tab hj]
  split
  ·refine lst_ok ?_
   rw [Int.sub_eq_add_neg]
   have := dl_step (hy j).2.2 (hy i).2.2 (hp (j - (i - n)))
   omega
  ·exact hy.mono zo j
 ·rw [nth_out (by rw [stL_len]; omega)]
  exact ⟨inI_nil, Nat.zero_le _, by show Go.Fl.dl (val []) ≤ _; rw [val_nil, dl_zero.2 rfl]; omega⟩
theorem ct_rbelow (x : NumT) (hx : InI x.2) (hl : x.2.length ≤ 500000) : Ct Tryz.prog 87 [kRd eNum x] (kRd (eL eI) (lstZ (denN x.2))) := by
 refine Ct.mk Tryz.func87 rfl Tryz.ntmps87 rfl (fun w J => ?_); refine jx2 ?_; refine jb 1 rfl ?_; refine jx5 ?_; refine Tr.frzB 1 [1] eNum (x := x) ⟨rfl, trivial⟩ rfl ?_; refine jn ?_; refine jx3 ?_; refine jc (ct_rSign x.2 hx zo) ?_; refine jx3 ?_; refine jq ?_ ?_
 ·intro h1
  have hv0 := cmpZ_z.1 h1
  have hd : denN x.2 = 1 := if_pos hv0
  refine jx2 ?_; refine TrL.new (ok_bsl eI 7 (fun hp => .cons rfl <| .nil) rfl rfl rfl rfl) rfl rfl rfl rfl ?_; refine jx3 ?_; refine Tr.frz 7 [2] ⟨rfl, trivial⟩ (by simp only [lenMax]; omega) rfl ?_; refine jx2 ?_; exact Rts.res1 (fn := Tryz.f87) rfl (.r rfl (by rw [hd, lst_1]) <| .nil)
 ·intro h1
  have hd : denN x.2 = val x.2 := if_neg (fun e => h1 (cmpZ_z.2 e))
  refine jx6 ?_; refine jc (ct_rNormal x.2 hx zo) ?_; refine jx4 ?_; exact Rts.res1 (fn := Tryz.f87) rfl (.r rfl (by rw [hd]) <| .nil)

set_option maxHeartbeats 1000000 in
theorem ct_rreduced (f : FdT) (c : List (List Int)) (B : Nat) (hpo : PolOk f.1) (hs : ∀ i, (nth f.1 i).natAbs ≤ 1000) (hc : LOk B c) (hl : c.length ≤ 16) (hB : B ≤ 200000) : Ct Tryz.prog 86 [kRd eRr (f, ()), kRd (eL (eL eI)) c] (kRd (eL (eL eI)) (rdcL f.1 c)) := by
 obtain ⟨n, hn1⟩ : ∃ n, f.1.length = n + 1 := ⟨f.1.length - 1, by have := hpo.1.1; omega⟩
 have hn2 : f.1.length - 1 = n := by omega
 have hn5 := hpo.1
 have hdp := hpo.2
 have hff : ((f, ()) : RrT).1.1.length = f.1.length := rfl
 refine Ct.mk Tryz.func86 rfl Tryz.ntmps86 rfl (fun w J => ?_); refine jx2 ?_; refine jb 2 rfl ?_; refine jx4 ?_; refine Tr.frzB 2 [2] eRr (x := (f, ())) ⟨rfl, trivial⟩ rfl ?_; refine jn ?_; refine jx2 ?_; refine jc (ct_rDegree f hn5) ?_; refine jx5 ?_; refine TrL.new (ok_bsl0 (eL eI) 12) rfl rfl rfl rfl ?_; refine jx2 ?_; refine jl ?_; refine jx3 ?_
 refine Tr.for (σ := Nat) [⟨2, true, _, _⟩, ⟨5, true, _, _⟩] [] (fun k => [⟨6, true, [12], kOsl 12 (c.length + k)⟩]) (fun k => [⟨12, [], cArr false 22 (eL eI) (c ++ List.replicate k []) (c.length + k)⟩]) (fun k => k ≤ n - c.length) (fun k => k = n - c.length) (fun k => n - c.length - k) (0) zi (Ent.mk (.o rfl (by simp) rfl <| zk) (.a (by simp) (by simp) <| .nil) rfl) ?_ ?_
 ·intro k hR0
  refine jn ?_; refine jx4 ?_; refine tO (ok_lenO rfl uu) rfl rfl ?_; refine jx4 ?_; refine jq ?_ ?_
  ·intro h3
   refine jx5 ?_; refine TrL.new (ok_bsl (eL eI) 20 (fun hp => .cons rfl <| .nil) rfl rfl rfl rfl) rfl rfl rfl rfl ?_; refine jx1 ?_; refine jl ?_; refine jx3 ?_
   exact End.lp (k + 1) zi zo (Ent.mk (.o rfl zi rfl <| zk) (.a (by rw [List.replicate_succ', List.append_assoc]) zi <| .nil) rfl)
  ·intro h3
   replace h3 := Int.not_lt.1 h3
   refine jx4 ?_
   exact End.cut (k) zo (Ent.mk (.o rfl zi rfl <| zk) (zk) rfl)
 ·rintro k hk0
  refine jn ?_; refine Tr.osq 6 1 rfl zo ?_
  refine Tr.for (σ := List (List Int) × Nat) [⟨2, true, _, _⟩, ⟨5, true, _, _⟩] [] (fun (ys, m) => [⟨6, true, [12], kOsq 12 1 0 m⟩]) (fun (ys, m) => [⟨12, [], cArr false 22 (eL eI) ys (c.length + k)⟩]) (fun (ys, m) => (ys.length = c.length + k ∧ n ≤ m ∧ m ≤ c.length + k) ∧ rdFL f.1 n (m - n) (ys.take m) = rdcL f.1 c ∧ LOk (B + 2 * (c.length + k - m)) ys) (fun (ys, m) => (ys.length = c.length + k ∧ m = n) ∧ ys.take m = rdcL f.1 c) (fun (ys, m) => m) ((c ++ List.replicate k [], c.length + k)) ⟨⟨by simp, by omega, Nat.le_refl _⟩, rdc_pad hn2 hk0 rfl, hc.app.mono zo⟩ (Ent.mk (.q rfl zi zi rfl <| zk) (zk) rfl) ?_ ?_
  ·rintro ⟨ys, m⟩ ⟨hym, hrd, hyo⟩
   refine jn ?_
   have hmx : ((m : Int) - 1).toNat = m - 1 := by omega
   have hm0 : nth ys (0 + ((m : Int) - 1).toNat) = nth ys (m - 1) := by rw [Nat.zero_add, hmx]
   refine jx4 ?_; refine tO (ok_lenQ rfl uu) rfl rfl ?_; refine jx4 ?_; refine jq ?_ ?_
   ·intro h5
    refine jx7 ?_; refine tO (ok_lenQ rfl uu) rfl rfl ?_; refine jx1 ?_; refine tO (ok_idxQw (c.length + k) rfl uu rfl uu (fun _ => zo)) rfl rfl ?_; refine jx1 ?_
    rw [hm0]
    refine jx7 ?_; refine tO (ok_lenQ rfl uu) rfl rfl ?_; refine jx1 ?_; refine tO (ok_slQh rfl uu rfl uu (fun _ => zo)) rfl rfl ?_
    rw [hmx]
    refine jx8 ?_
    refine Tr.for1 (σ := Nat) [⟨2, true, _, _⟩, ⟨5, true, _, _⟩, ⟨6, true, _, _⟩, ⟨7, true, _, _⟩] [] (fun i => [⟨8, true, [], kI (i : Int)⟩]) (fun i => [⟨12, [], cArr false 22 (eL eI) (stL f.1 ys n (m - 1) i) (c.length + k)⟩]) (fun i => i ≤ n) (fun i => i = n) (fun i => n - i) (0) zi (Ent.mk (.i rfl zi <| zk) (.a stL_zero zi <| .nil) rfl) ?_ ?_
    ·intro i hR2
     refine jn ?_
     have hix : (0 + (((m - 1 : Nat) : Int) - ((f.1.length : Int) - 1) + (i : Int)).toNat) = m - 1 - n + i := by omega
     have hso := stL_ok (n := n) (i := m - 1) (k := i) hyo hdp
     have hs1 := hso (m - 1 - n + i)
     have hyt := hyo (m - 1)
     have hpi := hdp i
     have hbi := dl_mul (val (nth ys (m - 1))) (nth f.1 i)
     refine jx8 ?_; refine jq ?_ ?_
     ·intro h9
      refine jx7 ?_; refine tO (ok_lenQ rfl uu) rfl rfl ?_; refine jx7 ?_; refine Tr.draw 16 mixed (by kernel_rfl) ?_; refine jx4 ?_; refine rO (ok_idxQw (c.length + k) rfl uu rfl uu (fun _ => zo)) rfl rfl ?_; refine jx1 ?_
      rw [hix]
      refine jx7 ?_; refine rO (ok_bslJ eI (fun hp => .cons rfl <| .nil) rfl rfl rfl rfl) rfl rfl ?_; refine rO (ok_call (fun hp => ct_rMul (nth ys (m - 1)) [nth f.1 i] hyt.1 (in1 (by have := hs i; omega)) zo (by show 1 ≤ _; omega)) (.a rfl uu <| .a rfl uu <| .nil)) rfl rfl ?_
      rw [val_one]
      refine rO (ok_call (fun hp => ct_rSub (nth (stL f.1 ys n (m - 1) i) (m - 1 - n + i)) (lstZ (val (nth ys (m - 1)) * nth f.1 i)) hs1.1 (lst_in _) zo (by rw [lst_len]; omega)) (.a rfl uu <| .a rfl uu <| .nil)) rfl rfl ?_
      rw [lst_val]
      refine jx1 ?_; refine tO (ok_idxQw (c.length + k) rfl uu rfl uu (fun _ => zo)) rfl rfl ?_; refine jx9 ?_
      exact End.lp (i + 1) zi zo (Ent.mk (.i rfl zi <| zk) (.a (by rw [hix, stL_out zo zo]; exact stL_succ zo zo zo) zi <| .nil) rfl)
     ·intro h9
      replace h9 := Int.not_lt.1 h9
      refine jx4 ?_
      exact End.cut (i) zo (Ent.mk (.i rfl zi <| zk) (zk) rfl)
    ·rintro i hkn
     refine je ?_; refine jx1 ?_
     exact End.lp ((stL f.1 ys n (m - 1) n, m - 1)) ⟨⟨by rw [stL_len]; exact hym.1, by omega, by omega⟩, by rw [stL_take zo zo, show m - 1 + 1 = m by omega, ← rdF_go (by rw [List.length_take]; omega) zo]; exact hrd, (stL_ok hyo hdp).mono zo⟩ (by show m - 1 < m; omega) (Ent.mk (.q rfl zi zi rfl <| zk) (.a (by rw [hkn]) zi <| .nil) rfl)
   ·intro h5
    replace h5 := Int.not_lt.1 h5
    refine jx4 ?_
    exact End.cut ((ys, m)) ⟨⟨hym.1, by omega⟩, by rw [← hrd, show m = n by omega, rdF_end (by rw [List.length_take]; omega)]⟩ (Ent.mk (.q rfl zi zi rfl <| zk) (zk) rfl)
  ·rintro ⟨ys, m⟩ ⟨hym, hrd⟩
   refine jn ?_; refine jx3 ?_; refine TrL.frzQ 12 [65] ⟨rfl, trivial⟩ ⟨by omega, by simp only [lenMax]; omega⟩ rfl ?_; refine jl ?_; refine jx4 ?_; exact Rts.res1 (fn := Tryz.f86) rfl (.r rfl (by rw [hrd]) <| .nil)

end Go.Fl

/- Contracts: numbers of the reference: normal forms, sums, products. -/
namespace Go.Fl
open Go Go.Proofs
open TrL renaming op → tO
open RunD renaming op → rO
set_option maxRecDepth 100000

theorem tabL_ok {F : Nat → Int} {m B : Nat} (h : ∀ j, j < m → dl (F j) ≤ B) : LOk B (tab m fun j => lstZ (F j)) := fun i => by
 by_cases hi : i < m
 ·rw [nth_tab hi]; exact lst_ok (h i hi)
 ·rw [nth_out (by rw [tab_len]; omega)]
  exact ⟨inI_nil, Nat.zero_le _, by show Go.Fl.dl (val []) ≤ _; rw [val_nil, dl_zero.2 rfl]; omega⟩
theorem tabL_val {F : Nat → Int} {m : Nat} : ((tab m fun j => lstZ (F j)).map val) = tab m F := by
 unfold tab
 rw [List.map_map]
 exact List.map_congr_left fun j _ => lst_val _
def mlN (p : List Int) (x y : NumL) : NvT := loN (pad p (cnvL (valC x) (valC y))) (denN x.2 * denN y.2)
theorem take_neg1 {p : List Int} {x : NumL} : mlN p x (giveN (loN [-1] 1)) = negV (takeN p x) := by
 have e : giveN (loN [-1] 1) = ([lstZ (-1)], lstZ 1) := by rw [low_one]; rfl
 rw [e]
 unfold mlN
 have e2 : valC ([lstZ (-1)], lstZ 1) = [-1] := by show [val (lstZ (-1))] = [-1]; rw [lst_val]
 have e3 : denN ([lstZ (-1)], lstZ 1).2 = 1 := by unfold denN; rw [lst_val, if_neg (by decide)]
 rw [e2, e3, cnvL_neg, Int.mul_one]
 exact rNeg_eq
theorem nth_valC {x : NumL} {i : Nat} : nth (valC x) i = val (nth x.1 i) := nth_mapv
theorem dl_num {x : NumL} {k : Nat} (h : NumOk k x) (i : Nat) : dl (val (nth x.1 i)) ≤ k + 3 := by have := dl_val (h.c i).1; have := (h.c i).2; omega
theorem sum_dl {F : Nat → Int} {B : Nat} (h : ∀ i, dl (F i) ≤ B) : ∀ {k : Nat}, dl (sumTo F k) ≤ B + k
 | 0 => by rw [show sumTo F 0 = 0 from rfl, dl_zero.2 rfl]; omega
 | k + 1 => by
  rw [sumTo_succ]
  have := sum_dl h (k := k)
  have := h k
  have := dl_add (sumTo F k) (F k)
  omega
theorem cnv_dl {x y : NumL} {k : Nat} (hx : NumOk k x) (hy : NumOk k y) (i j : Nat) : dl (val (nth x.1 i) * val (nth y.1 j)) ≤ 2 * k + 6 := by
 have := dl_num hx i
 have := dl_num hy j
 have := dl_mul (val (nth x.1 i)) (val (nth y.1 j))
 omega
theorem ct_rcoef (c : List (List Int)) (i : Nat) : Ct Tryz.prog 124 [kRd (eL (eL eI)) c, kI (i : Int)] (kRd (eL eI) (nth c i)) := by
 refine Ct.mk Tryz.func124 rfl Tryz.ntmps124 rfl (fun w J => ?_); refine jx14 ?_; refine jq ?_ ?_
 ·intro h1
  refine jx11 ?_; exact Rts.res1 (fn := Tryz.f124) rfl (.r rfl (by rfl) <| .nil)
 ·intro h1
  replace h1 := Int.not_lt.1 h1
  refine jx8 ?_; exact Rts.res1 (fn := Tryz.f124) rfl (.n rfl (by rw [nth_out zo]; rfl) <| .nil)

theorem ct_rNormalN (f : FdT) (x : NumT) (k : Nat) (hpo : PolOk f.1) (hs : ∀ i, (nth f.1 i).natAbs ≤ 1000) (hx : NumOk k x) (hk : k ≤ 50000) : Ct Tryz.prog 32 [kRd eRr (f, ()), kRd eNum x] (kRd eNum (giveN (takeN f.1 x))) := by
 have hro := rdcL_ok hpo.2 (num_LOk hx)
 have hxl := hx.len
 have hdd := dl_den hx.d.1 hx.d.2
 have hdl := hx.d.2
 have hne := denN_ne (d := x.2)
 refine Ct.mk Tryz.func32 rfl Tryz.ntmps32 rfl (fun w J => ?_); refine jx2 ?_; refine jb 2 rfl ?_; refine jb 3 rfl ?_; refine ja 4 ?_; refine jx3 ?_; refine Tr.frzB 2 [2] eRr (x := (f, ())) ⟨rfl, trivial⟩ rfl ?_; refine Tr.frzB 3 [3] eNum (x := x) ⟨rfl, trivial⟩ rfl ?_; refine jn ?_; refine Tr.draw 5 mixed (by kernel_rfl) ?_; refine jx3 ?_; refine jd (ct_rreduced f x.1 (k + 3) hpo hs (num_LOk hx) zo zo) ?_; refine jx2 ?_; refine jc (ct_rbelow x hx.d.1 zo) ?_; refine tO (ok_call (fun hp => ct_rlowest (rdcL f.1 x.1) (lstZ (denN x.2)) (fun i => ⟨(hro i).1, Nat.le_trans (hro i).2.1 zo⟩) ⟨lst_in _, by rw [lst_len]; omega⟩ (by rw [lst_val]; exact hne) (by rw [rdcL_len]; have := hpo.1; omega)) (.a rfl uu <| .a rfl uu <| .nil)) rfl rfl ?_
 refine jx4 ?_; exact Rts.resC1 (fn := Tryz.f32) rfl rfl (aggRd rfl (by rw [lst_val, take_give_red hpo.1.2]; rfl))

set_option maxHeartbeats 1000000 in
theorem ct_rAddN (f : FdT) (x y : NumT) (k : Nat) (hpo : PolOk f.1) (hs : ∀ i, (nth f.1 i).natAbs ≤ 1000) (hx : NumOk k x) (hy : NumOk k y) (hk : k ≤ 30000) : Ct Tryz.prog 72 [kRd eRr (f, ()), kRd eNum x, kRd eNum y] (kRd eNum (giveN (adV (takeN f.1 x) (takeN f.1 y)))) := by
 have hxl := hx.len
 have hyl := hy.len
 have hdx := dl_den hx.d.1 hx.d.2
 have hdy := dl_den hy.d.1 hy.d.2
 have hdl := hx.d.2
 have hdl2 := hy.d.2
 have hne := Int.mul_ne_zero (denN_ne (d := x.2)) (denN_ne (d := y.2))
 have hsj : ∀ j, dl (val (nth x.1 j) * denN y.2 + val (nth y.1 j) * denN x.2) ≤ 2 * k + 7 := fun j => by have a1 := dl_num hx j; have a2 := dl_num hy j; have a3 := dl_mul (val (nth x.1 j)) (denN y.2); have a4 := dl_mul (val (nth y.1 j)) (denN x.2); have a5 := dl_add (val (nth x.1 j) * denN y.2) (val (nth y.1 j) * denN x.2); omega
 have hab := dl_mul (denN x.2) (denN y.2)
 refine Ct.mk Tryz.func72 rfl Tryz.ntmps72 rfl (fun w J => ?_); refine jx2 ?_; refine jb 3 rfl ?_; refine jb 4 rfl ?_; refine jb 5 rfl ?_; refine ja 6 ?_; refine jx3 ?_; refine Tr.frzB 3 [3] eRr (x := (f, ())) ⟨rfl, trivial⟩ rfl ?_; refine Tr.frzB 4 [4] eNum (x := x) ⟨rfl, trivial⟩ rfl ?_; refine Tr.frzB 5 [5] eNum (x := y) ⟨rfl, trivial⟩ rfl ?_; refine jn ?_; refine Tr.draw 3 mixed (by kernel_rfl) ?_; refine jx1 ?_; refine jd (ct_rbelow x hx.d.1 zo) ?_; refine jx2 ?_; refine jc (ct_rbelow y hy.d.1 zo) ?_; refine jx15 ?_; refine Tr.grow (s := 9) rfl rfl 99 rfl 22 (eL eI) rfl ?_
 refine Tr.for1 (σ := Nat) [⟨3, true, _, _⟩, ⟨4, true, _, _⟩, ⟨5, true, _, _⟩, ⟨6, true, _, _⟩, ⟨7, true, _, _⟩, ⟨8, true, _, _⟩] [⟨6, _, _⟩] (fun i => [⟨9, true, [99], kOsl 99 i⟩, ⟨10, true, [], kI (i : Int)⟩]) (fun i => [⟨99, [], cArr true 22 (eL eI) (tab i fun j => lstZ (val (nth x.1 j) * denN y.2 + val (nth y.1 j) * denN x.2)) i⟩]) (fun i => i ≤ max x.1.length y.1.length) (fun i => i = max x.1.length y.1.length) (fun i => max x.1.length y.1.length - i) (0) zi (Ent.mk (.o rfl zi rfl <| .i rfl zi <| zk) (.a (by rfl) zi <| zk) rfl) ?_ ?_
 ·intro i hR0
  refine jn ?_
  have hsm1 := Nat.le_trans (dl_mul (val (nth x.1 i)) (denN y.2)) (Nat.add_le_add (dl_num hx i) hdy)
  have hsm2 := Nat.le_trans (dl_mul (val (nth y.1 i)) (denN x.2)) (Nat.add_le_add (dl_num hy i) hdx)
  refine jx17 ?_; refine Tr.cnd rfl ?_ ?_
  ·intro h4
   have him : i < max x.1.length y.1.length := by simp at h4; omega
   refine jx4 ?_; refine Tr.draw 15 mixed (by kernel_rfl) ?_; refine jx4 ?_; refine jd (ct_rcoef x.1 i) ?_; refine jx1 ?_; refine rO (ok_call (fun hp => ct_rMul (nth x.1 i) (lstZ (denN y.2)) (hx.c i).1 (lst_in _) (by have := (hx.c i).2; omega) (by rw [lst_len]; omega)) (.a rfl uu <| .a rfl uu <| .nil)) rfl rfl ?_
   rw [lst_val]
   refine jx3 ?_; refine jd (ct_rcoef y.1 i) ?_; refine jx1 ?_; refine rO (ok_call (fun hp => ct_rMul (nth y.1 i) (lstZ (denN x.2)) (hy.c i).1 (lst_in _) (by have := (hy.c i).2; omega) (by rw [lst_len]; omega)) (.a rfl uu <| .a rfl uu <| .nil)) rfl rfl ?_
   rw [lst_val]
   refine rO (ok_call (fun hp => ct_rAdd (lstZ (val (nth x.1 i) * denN y.2)) (lstZ (val (nth y.1 i) * denN x.2)) (lst_in _) (lst_in _) (by rw [lst_len]; have := hsm1; omega) (by rw [lst_len]; have := hsm2; omega)) (.a rfl uu <| .a rfl uu <| .nil)) rfl rfl ?_
   rw [lst_val, lst_val]
   refine RunD.new (ok_bsl (eL eI) 43 (fun hp => .cons rfl <| .nil) rfl rfl rfl rfl) rfl rfl rfl rfl ?_; refine jx2 ?_; refine jl ?_; refine jx9 ?_
   exact End.lp (i + 1) zi zo (Ent.mk (.o rfl zi rfl <| .i rfl zi <| zk) (.a tab_succ.symm zi <| zk) rfl)
  ·intro h4
   have him : max x.1.length y.1.length ≤ i := by simp at h4; omega
   refine jx4 ?_
   exact End.cut (i) zo (Ent.mk (.o rfl zi rfl <| .i rfl zi <| zk) (zk) rfl)
 ·rintro i him
  refine je ?_
  rw [him]
  have hro := rdcL_ok (p := f.1) hpo.2 (tabL_ok (m := max x.1.length y.1.length) (F := fun j => val (nth x.1 j) * denN y.2 + val (nth y.1 j) * denN x.2) (B := 2 * k + 7) fun j _ => hsj j)
  refine jx5 ?_; refine TrL.frz 99 [9, 46] ⟨rfl, rfl, trivial⟩ (by simp only [lenMax]; omega) rfl ?_; refine jl ?_; refine tO (ok_call (fun hp => ct_rreduced f (tab (max x.1.length y.1.length) fun j => lstZ (val (nth x.1 j) * denN y.2 + val (nth y.1 j) * denN x.2)) (2 * k + 7) hpo hs (tabL_ok fun j _ => hsj j) (by rw [tab_len]; omega) zo) (.a rfl uu <| .a rfl uu <| .nil)) rfl rfl ?_; refine jx2 ?_; refine tO (ok_call (fun hp => ct_rMul (lstZ (denN x.2)) (lstZ (denN y.2)) (lst_in _) (lst_in _) (by rw [lst_len]; omega) (by rw [lst_len]; omega)) (.a rfl uu <| .a rfl uu <| .nil)) rfl rfl ?_
  rw [lst_val, lst_val]
  refine tO (ok_call (fun hp => ct_rlowest (rdcL f.1 (tab (max x.1.length y.1.length) fun j => lstZ (val (nth x.1 j) * denN y.2 + val (nth y.1 j) * denN x.2))) (lstZ (denN x.2 * denN y.2)) (fun i => ⟨(hro i).1, Nat.le_trans (hro i).2.1 (by rw [tab_len]; omega)⟩) ⟨lst_in _, by rw [lst_len]; omega⟩ (by rw [lst_val]; exact hne) (by rw [rdcL_len]; have := hpo.1; omega)) (.a rfl uu <| .a rfl uu <| .nil)) rfl rfl ?_; refine jx4 ?_; exact Rts.resC1 (fn := Tryz.f72) rfl rfl (aggRd rfl (by rw [lst_val, take_give_red hpo.1.2, tabL_val, ← rAdd_eq (p := f.1) (x := x) (y := y) (m := max x.1.length y.1.length) zo zo]; refine congrArg (fun l => giveN (loN (pad f.1 l) _)) (tab_congr fun j _ => ?_); rw [nth_valC, nth_valC]))

end Go.Fl

/- Contracts: numbers of the reference: products, differences. -/
namespace Go.Fl
open Go Go.Proofs
open TrL renaming op → tO
open RunD renaming op → rO
set_option maxRecDepth 100000

theorem cnv_val {x y : NumL} : tab (x.1.length + y.1.length - 1) (fun i => sumTo (fun j => val (nth x.1 j) * val (nth y.1 (i - j))) (i + 1)) = cnvL (valC x) (valC y) := by
 unfold cnvL
 rw [show (valC x).length = x.1.length from List.length_map .., show (valC y).length = y.1.length from List.length_map ..]
 refine tab_congr fun i _ => sumTo_congr fun j _ => ?_
 rw [nth_valC, nth_valC]
theorem dl_four1 (i : Nat) : dl (nth ([-1, 0, 0, 0] : List Int) i) ≤ 1 := by
 match i with
 | 0 => exact dl_le (by decide)
 | 1 => show dl 0 ≤ 1; rw [dl_zero.2 rfl]; omega
 | 2 => show dl 0 ≤ 1; rw [dl_zero.2 rfl]; omega
 | 3 => show dl 0 ≤ 1; rw [dl_zero.2 rfl]; omega
 | i + 4 => rw [nth_out (by simp)]; show dl 0 ≤ 1; rw [dl_zero.2 rfl]; omega
set_option maxHeartbeats 1000000 in
theorem ct_rMulN (f : FdT) (x y : NumT) (k : Nat) (hpo : PolOk f.1) (hs : ∀ i, (nth f.1 i).natAbs ≤ 1000) (hx : NumOk k x) (hy : NumOk k y) (hk : k ≤ 30000) : Ct Tryz.prog 79 [kRd eRr (f, ()), kRd eNum x, kRd eNum y] (kRd eNum (giveN (mlN f.1 x y))) := by
 have hxl := hx.len
 have hyl := hy.len
 have hdx := dl_den hx.d.1 hx.d.2
 have hdy := dl_den hy.d.1 hy.d.2
 have hdl := hx.d.2
 have hdl2 := hy.d.2
 have hne := Int.mul_ne_zero (denN_ne (d := x.2)) (denN_ne (d := y.2))
 have hsj : ∀ i m, dl (sumTo (fun j => val (nth x.1 j) * val (nth y.1 (i - j))) (m)) ≤ 2 * k + 6 + m := fun i m => sum_dl (fun j => cnv_dl hx hy j (i - j))
 have hab := dl_mul (denN x.2) (denN y.2)
 refine Ct.mk Tryz.func79 rfl Tryz.ntmps79 rfl (fun w J => ?_); refine jx2 ?_; refine jb 3 rfl ?_; refine jb 4 rfl ?_; refine jb 5 rfl ?_; refine ja 6 ?_; refine jx3 ?_; refine Tr.frzB 3 [3] eRr (x := (f, ())) ⟨rfl, trivial⟩ rfl ?_; refine Tr.frzB 4 [4] eNum (x := x) ⟨rfl, trivial⟩ rfl ?_; refine Tr.frzB 5 [5] eNum (x := y) ⟨rfl, trivial⟩ rfl ?_; refine jn ?_; refine jx10 ?_; refine Tr.grow (s := 7) rfl rfl 99 rfl 22 (eL eI) rfl ?_
 refine Tr.for1 (σ := Nat) [⟨3, true, _, _⟩, ⟨4, true, _, _⟩, ⟨5, true, _, _⟩, ⟨6, true, _, _⟩] [⟨6, _, _⟩] (fun i => [⟨7, true, [99], kOsl 99 i⟩, ⟨8, true, [], kI (i : Int)⟩]) (fun i => [⟨99, [], cArr true 22 (eL eI) (tab i fun i => lstZ (sumTo (fun j => val (nth x.1 j) * val (nth y.1 (i - j))) (i + 1))) i⟩]) (fun i => i ≤ (x.1.length + y.1.length - 1)) (fun i => i = (x.1.length + y.1.length - 1)) (fun i => (x.1.length + y.1.length - 1) - i) (0) zi (Ent.mk (.o rfl zi rfl <| .i rfl zi <| zk) (.a (by rfl) zi <| zk) rfl) ?_ ?_
 ·intro i hR0
  refine jn ?_; refine jx15 ?_; refine jq ?_ ?_
  ·intro h3
   refine jx15 ?_
   refine Tr.for1 (σ := Nat) [⟨3, true, _, _⟩, ⟨4, true, _, _⟩, ⟨5, true, _, _⟩, ⟨6, true, _, _⟩, ⟨7, true, _, _⟩, ⟨8, true, _, _⟩] [⟨6, _, _⟩, ⟨99, _, _⟩] (fun j => [⟨9, true, [], kRd (eL eI) (lstZ (sumTo (fun j => val (nth x.1 j) * val (nth y.1 (i - j))) (j)))⟩, ⟨10, true, [], kI (j : Int)⟩]) (fun j => []) (fun j => j ≤ i + 1) (fun j => j = i + 1) (fun j => i + 1 - j) (0) zi (Ent.mk (.n rfl (by rfl) <| .i rfl zi <| zk) (zk) rfl) ?_ ?_
   ·intro j hR1
    refine jn ?_
    have hsb := hsj i j
    have hcb := cnv_dl hx hy j (i - j)
    have hij := fun (h : j ≤ i) => (show (i : Int) - (j : Int) = ((i - j : Nat) : Int) by omega)
    refine jx8 ?_; refine jq ?_ ?_
    ·intro h7
     refine jx4 ?_; refine Tr.draw 12 mixed (by kernel_rfl) ?_; refine jx4 ?_; refine jd (ct_rcoef x.1 j) ?_; refine jx5 ?_
     rw [hij zo]
     refine jd (ct_rcoef y.1 (i - j)) ?_; refine rO (ok_call (fun hp => ct_rMul (nth x.1 j) (nth y.1 (i - j)) (hx.c j).1 (hy.c _).1 (by have := (hx.c j).2; omega) (by have := (hy.c (i - j)).2; omega)) (.a rfl uu <| .a rfl uu <| .nil)) rfl rfl ?_; refine jx1 ?_; refine tO (ok_call (fun hp => ct_rAdd (lstZ (sumTo (fun j => val (nth x.1 j) * val (nth y.1 (i - j))) (j))) (lstZ (val (nth x.1 j) * val (nth y.1 (i - j)))) (lst_in _) (lst_in _) (by rw [lst_len]; omega) (by rw [lst_len]; omega)) (.a rfl uu <| .a rfl uu <| .nil)) rfl rfl ?_
     rw [lst_val, lst_val]
     refine jx9 ?_
     exact End.lp (j + 1) zi zo (Ent.mk (.r rfl (by rw [sumTo_succ]) <| .i rfl zi <| zk) (zk) rfl)
    ·intro h7
     replace h7 := Int.not_le.1 h7
     refine jx4 ?_
     exact End.cut (j) zo (Ent.mk (.r rfl zi <| .i rfl zi <| zk) (zk) rfl)
   ·rintro j hji
    refine je ?_; refine jx4 ?_; refine TrL.new (ok_bsl (eL eI) 43 (fun hp => .cons rfl <| .nil) rfl rfl rfl rfl) rfl rfl rfl rfl ?_; refine jx1 ?_; refine jl ?_; refine jx9 ?_
    exact End.lp (i + 1) zi zo (Ent.mk (.o rfl zi rfl <| .i rfl zi <| zk) (.a (by rw [hji]; exact tab_succ.symm) zi <| zk) rfl)
  ·intro h3
   replace h3 := Int.not_lt.1 h3
   refine jx4 ?_
   exact End.cut (i) zo (Ent.mk (.o rfl zi rfl <| .i rfl zi <| zk) (zk) rfl)
 ·rintro i him
  refine je ?_
  rw [him]
  have hto : LOk (2 * k + 30) (tab (x.1.length + y.1.length - 1) fun i => lstZ (sumTo (fun j => val (nth x.1 j) * val (nth y.1 (i - j))) (i + 1))) := tabL_ok (m := (x.1.length + y.1.length - 1)) (F := fun i => sumTo (fun j => val (nth x.1 j) * val (nth y.1 (i - j))) (i + 1)) (B := 2 * k + 30) fun i hi => Nat.le_trans (hsj i (i + 1)) zo
  have hro := rdcL_ok (p := f.1) hpo.2 hto
  refine jx2 ?_; refine Tr.frz 99 [7] ⟨rfl, trivial⟩ (by simp only [lenMax]; omega) rfl ?_; refine jn ?_; refine Tr.draw 6 mixed (by kernel_rfl) ?_; refine jx2 ?_; refine jd (ct_rreduced f (tab (x.1.length + y.1.length - 1) fun i => lstZ (sumTo (fun j => val (nth x.1 j) * val (nth y.1 (i - j))) (i + 1))) (2 * k + 30) hpo hs hto (by rw [tab_len]; omega) zo) ?_; refine jx1 ?_; refine jd (ct_rbelow x hx.d.1 zo) ?_; refine jx2 ?_; refine jc (ct_rbelow y hy.d.1 zo) ?_; refine tO (ok_call (fun hp => ct_rMul (lstZ (denN x.2)) (lstZ (denN y.2)) (lst_in _) (lst_in _) (by rw [lst_len]; omega) (by rw [lst_len]; omega)) (.a rfl uu <| .a rfl uu <| .nil)) rfl rfl ?_
  rw [lst_val, lst_val]
  refine tO (ok_call (fun hp => ct_rlowest (rdcL f.1 (tab (x.1.length + y.1.length - 1) fun i => lstZ (sumTo (fun j => val (nth x.1 j) * val (nth y.1 (i - j))) (i + 1)))) (lstZ (denN x.2 * denN y.2)) (fun i => ⟨(hro i).1, Nat.le_trans (hro i).2.1 (by rw [tab_len]; omega)⟩) ⟨lst_in _, by rw [lst_len]; omega⟩ (by rw [lst_val]; exact hne) (by rw [rdcL_len]; have := hpo.1; omega)) (.a rfl uu <| .a rfl uu <| .nil)) rfl rfl ?_; refine jx4 ?_; exact Rts.resC1 (fn := Tryz.f79) rfl rfl (aggRd rfl (by rw [lst_val, take_give_red hpo.1.2, tabL_val, cnv_val]; rfl))

theorem ct_rNegN (f : FdT) (x : NumT) (k : Nat) (hpo : PolOk f.1) (hs : ∀ i, (nth f.1 i).natAbs ≤ 1000) (hx : NumOk k x) (hk : k ≤ 20000) : Ct Tryz.prog 132 [kRd eRr (f, ()), kRd eNum x] (kRd eNum (giveN (negV (takeN f.1 x)))) := by
 have hx1 : NumOk (k + 1) x := hx.mono zo
 have hw : NumOk (k + 1) (giveN (loN [-1] 1)) := by rw [give_int]; exact (give_NumOk (⟨fun i => dl_four1 i, by show dl 1 ≤ 1; exact dl_small zo zo, by show (0 : Int) < 1; omega, rfl⟩ : NBd 1 (intV (-1)))).mono zo
 refine Ct.mk Tryz.func132 rfl Tryz.ntmps132 rfl (fun w J => ?_); refine jx2 ?_; refine jb 2 rfl ?_; refine jb 3 rfl ?_; refine ja 4 ?_; refine jx3 ?_; refine Tr.frzB 2 [2] eRr (x := (f, ())) ⟨rfl, trivial⟩ rfl ?_; refine Tr.frzB 3 [3] eNum (x := x) ⟨rfl, trivial⟩ rfl ?_; refine jn ?_; refine Tr.draw 3 mixed (by kernel_rfl) ?_; refine jx2 ?_; refine jd (ct_rWhole (-1) zo) ?_; refine jx1 ?_; refine jc (ct_rMulN f x (giveN (loN [-1] 1)) (k + 1) hpo hs hx1 hw zo) ?_; refine jx4 ?_; exact Rts.resC1 (fn := Tryz.f132) rfl rfl (aggRd rfl (by rw [take_neg1]))

theorem ct_rSubN (f : FdT) (x y : NumT) (k : Nat) (hpo : PolOk f.1) (hs : ∀ i, (nth f.1 i).natAbs ≤ 1000) (hx : NumOk k x) (hy : NumOk k y) (hk : k ≤ 10000) : Ct Tryz.prog 78 [kRd eRr (f, ()), kRd eNum x, kRd eNum y] (kRd eNum (giveN (subV (takeN f.1 x) (takeN f.1 y)))) := by
 have ny : NBd (k + 15) (takeN f.1 y) := take_NBd hpo hy
 have ry : RedN f.1 (takeN f.1 y) := take_RedN hpo
 have hn := give_NumOk (neg_NBd ny)
 have htg := take_give (neg_RedN ry)
 refine Ct.mk Tryz.func78 rfl Tryz.ntmps78 rfl (fun w J => ?_); refine jx2 ?_; refine jb 3 rfl ?_; refine jb 4 rfl ?_; refine jb 5 rfl ?_; refine ja 6 ?_; refine jx3 ?_; refine Tr.frzB 3 [3] eRr (x := (f, ())) ⟨rfl, trivial⟩ rfl ?_; refine Tr.frzB 4 [4] eNum (x := x) ⟨rfl, trivial⟩ rfl ?_; refine Tr.frzB 5 [5] eNum (x := y) ⟨rfl, trivial⟩ rfl ?_; refine jn ?_; refine Tr.draw 5 mixed (by kernel_rfl) ?_; refine jx4 ?_; refine jd (ct_rNegN f y k hpo hs hy zo) ?_; refine jx1 ?_; refine jc (ct_rAddN f x (giveN (negV (takeN f.1 y))) (k + 15) hpo hs (hx.mono zo) hn zo) ?_; refine jx4 ?_
 exact Rts.resC1 (fn := Tryz.f78) rfl rfl (aggRd rfl (by rw [htg]; rfl))

end Go.Fl

/- Contracts: enclosures and halving of the reference. -/
namespace Go.Fl
open Go Go.Proofs
open TrL renaming op → tO
open RunD renaming op → rO
set_option maxRecDepth 100000

abbrev PlT := List Int × List Int × List Int
def ePl : Enc PlT := eC (fun v : PlT => (v.1, v.2.1, v.2.2, ())) (eP (eL eI) (eP (eL eI) (eP (eL eI) eU)))
instance {v : PlT} : CellsK (kRd ePl v) [kRd (eL eI) (v.1), kRd (eL eI) (v.2.1), kRd (eL eI) (v.2.2)] := inferInstanceAs (CellsK (kRd (eC (fun v : PlT => (v.1, v.2.1, v.2.2, ())) (eP (eL eI) (eP (eL eI) (eP (eL eI) eU)))) v) _)
instance {v : PlT} {tl : List Know} : EncCells ePl v tl (kRd (eL eI) (v.1) :: kRd (eL eI) (v.2.1) :: kRd (eL eI) (v.2.2) :: tl) := inferInstanceAs (EncCells (eC (fun v : PlT => (v.1, v.2.1, v.2.2, ())) (eP (eL eI) (eP (eL eI) (eP (eL eI) eU)))) v tl _)
instance {v : PlT} : Norm ePl v (kRd ePl v) := ⟨fun h => h⟩
instance {v : PlT} : FieldP ePl v 0 (eL eI) (v.1) 0 := inferInstanceAs (FieldP (eC (fun v : PlT => (v.1, v.2.1, v.2.2, ())) (eP (eL eI) (eP (eL eI) (eP (eL eI) eU)))) v 0 _ _ _)
instance {v : PlT} : FieldP ePl v 1 (eL eI) (v.2.1) 1 := inferInstanceAs (FieldP (eC (fun v : PlT => (v.1, v.2.1, v.2.2, ())) (eP (eL eI) (eP (eL eI) (eP (eL eI) eU)))) v 1 _ _ _)
instance {v : PlT} : FieldP ePl v 2 (eL eI) (v.2.2) 2 := inferInstanceAs (FieldP (eC (fun v : PlT => (v.1, v.2.1, v.2.2, ())) (eP (eL eI) (eP (eL eI) (eP (eL eI) eU)))) v 2 _ _ _)
instance {ks r : List Know} {a b c : List Int} [h : RdOf ks (eP (eL eI) (eP (eL eI) (eP (eL eI) eU))) (a, b, c, ()) r] : RdOf ks ePl ((a, b, c)) r := ⟨fun h' => h.imp h'⟩
instance {a b c d : List Int} {r : List Know} : RdOf (kRd (eL eI) a :: kRd (eL eI) b :: kRd (eL eI) c :: kRd (eL eI) d :: r) (eArr 4 (eL eI)) [a, b, c, d] r := ⟨fun {g cs} h => by
 obtain ⟨c1, t1, rfl, q1, h⟩ := (inferInstance : RdOf (kRd (eL eI) a :: kRd (eL eI) b :: kRd (eL eI) c :: kRd (eL eI) d :: r) (eL eI) a _).imp h
 obtain ⟨c2, t2, rfl, q2, h⟩ := (inferInstance : RdOf (kRd (eL eI) b :: kRd (eL eI) c :: kRd (eL eI) d :: r) (eL eI) b _).imp h
 obtain ⟨c3, t3, rfl, q3, h⟩ := (inferInstance : RdOf (kRd (eL eI) c :: kRd (eL eI) d :: r) (eL eI) c _).imp h
 obtain ⟨c4, t4, rfl, q4, h⟩ := (inferInstance : RdOf (kRd (eL eI) d :: r) (eL eI) d _).imp h
 exact ⟨c1 ++ c2 ++ c3 ++ c4, t4, by simp, ⟨rfl, c1, c2 ++ c3 ++ c4, by simp, q1, c2, c3 ++ c4, by simp, q2, c3, c4, by simp, q3, c4, [], by simp, q4, rfl⟩, h⟩⟩
instance {a b c d : List Int} {tl : List Know} : EncCells (eArr 4 (eL eI)) [a, b, c, d] tl (kRd (eL eI) a :: kRd (eL eI) b :: kRd (eL eI) c :: kRd (eL eI) d :: tl) := ⟨fun {g cs ds} h h' => by
 obtain ⟨_, c1, t1, rfl, q1, c2, t2, rfl, q2, c3, t3, rfl, q3, c4, t4, rfl, q4, h⟩ := h
 have h : t4 = [] := h
 subst h
 have r4 := (inferInstance : EncCells (eL eI) d tl (kRd (eL eI) d :: tl)).imp q4 h'
 have r3 := (inferInstance : EncCells (eL eI) c (kRd (eL eI) d :: tl) _).imp q3 r4
 have r2 := (inferInstance : EncCells (eL eI) b (kRd (eL eI) c :: kRd (eL eI) d :: tl) _).imp q2 r3
 have r1 := (inferInstance : EncCells (eL eI) a (kRd (eL eI) b :: kRd (eL eI) c :: kRd (eL eI) d :: tl) _).imp q1 r2
 simpa using r1⟩
instance {a b c d : List Int} : CellsK (kRd (eArr 4 (eL eI)) [a, b, c, d]) [kRd (eL eI) a, kRd (eL eI) b, kRd (eL eI) c, kRd (eL eI) d] := ⟨fun {g v} hk => by
 have h1 := hk.cells
 have h2 := (inferInstance : EncCells (eArr 4 (eL eI)) [a, b, c, d] [] _).imp (g := g) (ds := []) h1 trivial
 exact ⟨by simpa using h2, List.all_eq_true.2 fun x hx => Enc.all1 _ h1 x hx⟩⟩
theorem nth_lst4 {zs : List Int} {i : Nat} (h : i < zs.length) : nth (zs.map lstZ) i = lstZ (nth zs i) := by simp [nth, h]
theorem cmp_sub {y z : Int} : cmpZ (y - z) 0 = cmpZ y z := by unfold cmpZ; split <;> split <;> (try split) <;> (try split) <;> omega
theorem ct_rCmp (y z : Int) (hy : dl y ≤ 800000) (hz : dl z ≤ 800000) : Ct Tryz.prog 177 [kRd (eL eI) (lstZ y), kRd (eL eI) (lstZ z)] (kI (cmpZ y z)) := by
 have hyz := dl_add y (-z)
 rw [dl_neg, ← Int.sub_eq_add_neg] at hyz
 refine Ct.mk Tryz.func177 rfl Tryz.ntmps177 rfl (fun w J => ?_); refine jx9 ?_; refine tO (ok_call (fun hp => ct_rSub (lstZ y) (lstZ z) (lst_in _) (lst_in _) (by rw [lst_len]; omega) (by rw [lst_len]; omega)) (.a rfl uu <| .a rfl uu <| .nil)) rfl rfl ?_; refine tO (ok_call (fun hp => ct_rSign (lstZ (val (lstZ y) - val (lstZ z))) (lst_in _) (by rw [lst_len, lst_val, lst_val]; omega)) (.a rfl uu <| .nil)) rfl rfl ?_; refine jx4 ?_; exact Rts.res1 (fn := Tryz.f177) rfl (.i rfl (by rw [lst_val, lst_val, lst_val]; exact cmp_sub) <| .nil)

theorem ct_rbounds (z0 z1 z2 z3 : Int) (hz : ∀ z ∈ [z0, z1, z2, z3], dl z ≤ 800000) : Ct Tryz.prog 130 [kRd (eArr 4 (eL eI)) [lstZ z0, lstZ z1, lstZ z2, lstZ z3]] (kTup [kRd (eL eI) (lstZ (min4 z0 z1 z2 z3)), kRd (eL eI) (lstZ (max4 z0 z1 z2 z3))]) := by
 obtain ⟨zs, hzs⟩ : ∃ zs, zs = [z0, z1, z2, z3] := ⟨_, rfl⟩
 have hll : zs.length = 4 := by rw [hzs]; rfl
 have hzl : ∀ i, i < 4 → nth [lstZ z0, lstZ z1, lstZ z2, lstZ z3] i = lstZ (nth zs i) := fun i hi => by have := nth_lst4 (zs := zs) (i := i) zo; rw [← this, hzs]; rfl
 have hzb : ∀ i, i < 4 → dl (nth zs i) ≤ 800000 := fun i hi => hz _ (by rw [← hzs]; exact nth_mem zo)
 have hmb : ∀ i, i < 4 → dl (mnW zs i) ≤ 800000 ∧ dl (mxW zs i) ≤ 800000 := fun i hi => ⟨hz _ (by rw [← hzs]; exact (mnW_mem zo).1), hz _ (by rw [← hzs]; exact (mnW_mem zo).2)⟩
 refine Ct.mk Tryz.func130 rfl Tryz.ntmps130 rfl (fun w J => ?_); refine jx2 ?_; refine jb 1 rfl ?_; refine jx5 ?_; refine Tr.frzB 1 [1] (eArr 4 (eL eI)) ⟨rfl, trivial⟩ rfl ?_; refine jn ?_; refine Tr.draw 5 mixed (by kernel_rfl) ?_; refine rO (ok_idxArrP rfl uu rfl uu rfl (fun _ => zo)) rfl rfl ?_; refine jx1 ?_; refine rO (ok_idxArrP rfl uu rfl uu rfl (fun _ => zo)) rfl rfl ?_; refine jx12 ?_
 refine Tr.for1 (σ := Nat) [⟨1, true, _, _⟩] [] (fun j => [⟨4, true, [], kRd (eL eI) (lstZ (mnW zs j))⟩, ⟨5, true, [], kRd (eL eI) (lstZ (mxW zs j))⟩, ⟨6, true, [], kI ((j : Int) + 1)⟩]) (fun j => []) (fun j => j + 1 ≤ 4) (fun j => j = 3) (fun j => 4 - j) (0) zi (Ent.mk (.r rfl (by rw [hzs]; rfl) <| .r rfl (by rw [hzs]; rfl) <| .i rfl zi <| zk) (.nil) rfl) ?_ ?_
 ·intro j hR0
  refine jn ?_
  have hjn : ((j : Int) + 1).toNat = j + 1 := by omega
  have hb2 := hmb j zo
  have hz1 := fun (h : j + 1 < 4) => hzl (j + 1) h
  have hz2 := fun (h : j + 1 < 4) => hzb (j + 1) h
  refine jx7 ?_; refine jq ?_ ?_
  ·intro h3
   refine jx8 ?_; refine tO (ok_idxArrP rfl uu rfl uu rfl (fun _ => zo)) rfl rfl ?_; refine jx1 ?_
   rw [hjn, hz1 zo]
   refine jx1 ?_; refine jc (ct_rCmp (nth zs (j + 1)) (mnW zs j) (hz2 zo) hb2.1) ?_; refine jx3 ?_; refine jq ?_ ?_
   ·intro h5
    have hm : mnW zs (j + 1) = nth zs (j + 1) := if_pos (cmZlt.1 h5)
    refine jx2 ?_; refine tO (ok_idxArrP rfl uu rfl uu rfl (fun _ => zo)) rfl rfl ?_; refine jx1 ?_
    rw [hjn, hz1 zo]
    refine jx6 ?_; refine tO (ok_idxArrP rfl uu rfl uu rfl (fun _ => zo)) rfl rfl ?_; refine jx1 ?_
    rw [hjn, hz1 zo]
    refine jx1 ?_; refine jc (ct_rCmp (nth zs (j + 1)) (mxW zs j) (hz2 zo) hb2.2) ?_; refine jx3 ?_; refine jq ?_ ?_
    ·intro h7
     have hx : mxW zs (j + 1) = nth zs (j + 1) := if_pos (cmZgt.1 h7)
     refine jx2 ?_; refine tO (ok_idxArrP rfl uu rfl uu rfl (fun _ => zo)) rfl rfl ?_; refine jx1 ?_
     rw [hjn, hz1 zo]
     refine jx9 ?_
     exact End.lp (j + 1) zi zo (Ent.mk (.r rfl (by rw [hm]) <| .r rfl (by rw [hx]) <| .i rfl zi <| zk) (.nil) rfl)
    ·intro h7
     replace h7 := Int.not_lt.1 h7
     have hx : mxW zs (j + 1) = mxW zs j := if_neg (fun e => absurd (cmZgt.2 e) zo)
     refine jx8 ?_
     exact End.lp (j + 1) zi zo (Ent.mk (.r rfl (by rw [hm]) <| .r rfl (by rw [hx]) <| .i rfl zi <| zk) (.nil) rfl)
   ·intro h5
    replace h5 := Int.not_lt.1 h5
    have hm : mnW zs (j + 1) = mnW zs j := if_neg (fun e => absurd (cmZlt.2 e) zo)
    refine jx5 ?_; refine tO (ok_idxArrP rfl uu rfl uu rfl (fun _ => zo)) rfl rfl ?_; refine jx1 ?_
    rw [hjn, hz1 zo]
    refine jx1 ?_; refine jc (ct_rCmp (nth zs (j + 1)) (mxW zs j) (hz2 zo) hb2.2) ?_; refine jx3 ?_; refine jq ?_ ?_
    ·intro h7
     have hx : mxW zs (j + 1) = nth zs (j + 1) := if_pos (cmZgt.1 h7)
     refine jx2 ?_; refine tO (ok_idxArrP rfl uu rfl uu rfl (fun _ => zo)) rfl rfl ?_; refine jx1 ?_
     rw [hjn, hz1 zo]
     refine jx9 ?_
     exact End.lp (j + 1) zi zo (Ent.mk (.r rfl (by rw [hm]) <| .r rfl (by rw [hx]) <| .i rfl zi <| zk) (.nil) rfl)
    ·intro h7
     replace h7 := Int.not_lt.1 h7
     have hx : mxW zs (j + 1) = mxW zs j := if_neg (fun e => absurd (cmZgt.2 e) zo)
     refine jx8 ?_
     exact End.lp (j + 1) zi zo (Ent.mk (.r rfl (by rw [hm]) <| .r rfl (by rw [hx]) <| .i rfl zi <| zk) (.nil) rfl)
  ·intro h3
   replace h3 := Int.not_lt.1 h3
   refine jx4 ?_
   exact End.cut (j) zo (Ent.mk (.r rfl zi <| .r rfl zi <| .i rfl zi <| zk) (.nil) rfl)
 ·rintro j rfl
  refine je ?_
  have hfin := mnW4 (a := z0) (b := z1) (c := z2) (d := z3)
  rw [hzs]
  refine jx10 ?_; exact Rts.res (fn := Tryz.f130) (ts := [2, 3]) rfl rfl (.r rfl (by rw [hfin.1]) <| .r rfl (by rw [hfin.2]) <| .nil)

end Go.Fl

/- Contracts: enclosures, halving and signs of the reference. -/
namespace Go.Fl
open Go Go.Proofs
open TrL renaming op → tO
open RunD renaming op → rO
set_option maxRecDepth 100000

theorem in2 : InI [2] := in1 zo
theorem plK_val {f : FdT} {k : Nat} : (ivK f.1 (ivF f) k).lo = val (plL (f.2.1, f.2.2.1, f.2.2.2) (ivK f.1 (ivF f) k) k).1 ∧ (ivK f.1 (ivF f) k).hi = val (plL (f.2.1, f.2.2.1, f.2.2.2) (ivK f.1 (ivF f) k) k).2.1 ∧ (ivK f.1 (ivF f) k).den = val (plL (f.2.1, f.2.2.1, f.2.2.2) (ivK f.1 (ivF f) k) k).2.2 := by
 unfold plL
 by_cases h : k = 0
 ·subst h
  rw [if_pos rfl]
  exact ⟨val_one.symm, val_one.symm, val_one.symm⟩
 ·rw [if_neg h]
  exact ⟨(lst_val _).symm, (lst_val _).symm, (lst_val _).symm⟩
theorem plK_in {f : FdT} {k B : Nat} (hf : (1 ≤ f.2.2.2 ∧ f.2.2.2 ≤ 1000000) ∧ (-1000000 ≤ f.2.1 ∧ f.2.1 ≤ 1000000) ∧ (-1000000 ≤ f.2.2.1 ∧ f.2.2.1 ≤ 1000000)) (hB : 1 ≤ B) (hz : dl (ivK f.1 (ivF f) k).lo ≤ B ∧ dl (ivK f.1 (ivF f) k).hi ≤ B ∧ dl (ivK f.1 (ivF f) k).den ≤ B) :
  (InI (plL (f.2.1, f.2.2.1, f.2.2.2) (ivK f.1 (ivF f) k) k).1 ∧ (plL (f.2.1, f.2.2.1, f.2.2.2) (ivK f.1 (ivF f) k) k).1.length ≤ B) ∧ (InI (plL (f.2.1, f.2.2.1, f.2.2.2) (ivK f.1 (ivF f) k) k).2.1 ∧ (plL (f.2.1, f.2.2.1, f.2.2.2) (ivK f.1 (ivF f) k) k).2.1.length ≤ B) ∧ (InI (plL (f.2.1, f.2.2.1, f.2.2.2) (ivK f.1 (ivF f) k) k).2.2 ∧ (plL (f.2.1, f.2.2.1, f.2.2.2) (ivK f.1 (ivF f) k) k).2.2.length ≤ B) := by
 unfold plL
 by_cases h : k = 0
 ·subst h
  rw [if_pos rfl]
  exact ⟨⟨in1 (x := f.2.1) zo, hB⟩, ⟨in1 (x := f.2.2.1) zo, hB⟩, ⟨in1 (x := f.2.2.2) zo, hB⟩⟩
 ·rw [if_neg h]
  exact ⟨⟨lst_in _, by rw [lst_len]; exact hz.1⟩, ⟨lst_in _, by rw [lst_len]; exact hz.2.1⟩, ⟨lst_in _, by rw [lst_len]; exact hz.2.2⟩⟩
theorem sgn_hm {p : List Int} {a b : Int} (h : hmL p a b ≠ 0) : sgn (hvP a b p).1 ≠ 0 := by
 have e : (hvP a b p).1 = hmL p a b := (hvP_hm (a := a) (b := b) (cs := p)).2
 rw [e]
 rcases sgn_cases (hmL p a b) with ⟨_, q⟩ | ⟨q, _⟩ | ⟨_, q⟩
 ·rw [q]; decide
 ·exact absurd q h
 ·rw [q]; decide
theorem trim_rat {v : List Int} (_ : v.length = 4) (h : (trimL v).length ≤ 1) : ratB v = true := ratB_of fun i h1 h2 => by
 rw [← nth_trim, nth_out zo]; rfl
theorem trim_big {p : List Int} {v : NvT} (hv : RedN p v) (h : 2 ≤ (trimL v.1).length) : ratB v.1 ≠ true ∧ 3 ≤ p.length := by
 have h4 := hv.len
 have hne : trimL v.1 ≠ [] := fun e => by rw [e] at h; simp at h
 have h1 := (trim_trim (xs := v.1)).top hne
 rw [nth_trim] at h1
 have hle := trim_len (xs := v.1)
 refine ⟨fun e => h1.2 (ratB_iff.1 e _ zo zo), Classical.byContradiction fun hp => h1.2 (hv.hi _ zo)⟩
theorem sg_tr {p : List Int} {I : Iv} {v : NvT} (hv : RedN p v) (h5 : p.length ≤ 5) (hI : I.Ok) {k : Nat} : (0 < (enc (ivK p I k) (trimL v.1)).1 ↔ 0 < (enc (ivK p I k) (v.1.take (p.length - 1))).1) ∧ ((enc (ivK p I k) (trimL v.1)).2.1 < 0 ↔ (enc (ivK p I k) (v.1.take (p.length - 1))).2.1 < 0) := by
 rw [take_trim hv.len (show p.length - 1 ≤ 4 by omega) hv.hi]
 have := enc_sg (ivK_ok hI (p := p) (k := k)).pos (xs := trimL v.1) (k := p.length - 1 - (trimL v.1).length)
 exact ⟨this.1.symm, this.2.symm⟩
set_option maxHeartbeats 1000000 in
theorem ct_renclosed (cs : List Int) (pl : PlT) (I : Iv) (hI1 : I.lo = val pl.1) (hI2 : I.hi = val pl.2.1) (hI3 : I.den = val pl.2.2) (hn1 : InI pl.1 ∧ pl.1.length ≤ 73000) (hn2 : InI pl.2.1 ∧ pl.2.1.length ≤ 73000) (hn3 : InI pl.2.2 ∧ pl.2.2.length ≤ 73000) (hz : dl I.lo ≤ 73000 ∧ dl I.hi ≤ 73000 ∧ dl I.den ≤ 73000) (hcl : cs.length ≤ 4) (hcd : ∀ i, dl (nth cs i) ≤ 540) : Ct Tryz.prog 76 [kRd (eL (eL eI)) (cs.map lstZ), kRd ePl pl] (kTup [kRd (eL eI) (lstZ (enc I cs).1), kRd (eL eI) (lstZ (enc I cs).2.1), kRd (eL eI) (lstZ (enc I cs).2.2)]) := by
 have hml : (cs.map lstZ).length = cs.length := List.length_map ..
 refine Ct.mk Tryz.func76 rfl Tryz.ntmps76 rfl (fun w J => ?_); refine jx2 ?_; refine jb 3 rfl ?_; refine jx6 ?_; refine Tr.frzB 3 [3] ePl (x := pl) ⟨rfl, trivial⟩ rfl ?_; refine jn ?_; refine jx7 ?_; refine TrL.new (ok_bsl eI 11 (fun hp => .cons rfl <| .nil) rfl rfl rfl rfl) rfl rfl rfl rfl ?_; refine TrL.frz 11 [11] ⟨rfl, trivial⟩ (by decide) rfl ?_; refine jl ?_; refine jx12 ?_
 refine Tr.for1 (σ := Nat) [⟨0, true, _, _⟩, ⟨3, true, _, _⟩] [] (fun j => [⟨7, true, [], kRd (eL eI) (lstZ (encK I cs j).1)⟩, ⟨8, true, [], kRd (eL eI) (lstZ (encK I cs j).2.1)⟩, ⟨9, true, [], kRd (eL eI) (lstZ (encK I cs j).2.2)⟩, ⟨10, true, [], kI ((cs.length : Int) - 1 - j)⟩]) (fun j => []) (fun j => j ≤ cs.length) (fun j => j = cs.length) (fun j => cs.length - j) (0) zi (Ent.mk (.n rfl (by rw [encK_zero]; rfl) <| .n rfl (by rw [encK_zero]; rfl) <| .r rfl (by rw [encK_zero]; exact lst_1.symm) <| .i rfl zi <| zk) (.nil) rfl) ?_ ?_
 ·intro j hR0
  refine jn ?_
  have hb := encK_dl (A := 73000) (C := 540) hz.1 hz.2.1 hz.2.2 hcd (k := j) zo
  have hj5 : j * (73000 + 1) ≤ 4 * 73001 := Nat.mul_le_mul zo zo
  have hj6 : j * 73000 ≤ 4 * 73000 := Nat.mul_le_mul zo zo
  have hcj := hcd (cs.length - 1 - j)
  have hm1 := dl_mul (encK I cs j).1 I.lo
  have hm2 := dl_mul (encK I cs j).1 I.hi
  have hm3 := dl_mul (encK I cs j).2.1 I.lo
  have hm4 := dl_mul (encK I cs j).2.1 I.hi
  have hm5 := dl_mul (encK I cs j).2.2 I.den
  have hm6 := dl_mul (nth cs (cs.length - 1 - j)) ((encK I cs j).2.2 * I.den)
  have hco : ∀ x ∈ ([(encK I cs j).1 * I.lo, (encK I cs j).1 * I.hi, (encK I cs j).2.1 * I.lo, (encK I cs j).2.1 * I.hi] : List Int), dl x ≤ 800000 := fun x hx => by simp only [List.mem_cons, List.not_mem_nil, or_false] at hx; rcases hx with rfl | rfl | rfl | rfl <;> omega
  have hmm := dl_min4 (n := 370000) (a := (encK I cs j).1 * I.lo) (b := (encK I cs j).1 * I.hi) (c := (encK I cs j).2.1 * I.lo) (d := (encK I cs j).2.1 * I.hi) zo zo zo zo
  have hcx := fun (h : j < cs.length) => (show nth (cs.map lstZ) ((cs.length : Int) - 1 - (j : Int)).toNat = lstZ (nth cs (cs.length - 1 - j)) by rw [show ((cs.length : Int) - 1 - (j : Int)).toNat = cs.length - 1 - j by omega]; exact nth_lst4 zo)
  refine jx7 ?_; refine jq ?_ ?_
  ·intro h4
   refine jx5 ?_; refine Tr.draw 22 mixed (by kernel_rfl) ?_; refine jx3 ?_; refine rO (ok_call (fun hp => ct_rMul (lstZ (encK I cs j).1) pl.1 (lst_in _) hn1.1 (by rw [lst_len]; omega) zo) (.a rfl uu <| .a rfl uu <| .nil)) rfl rfl ?_
   rw [lst_val, ← hI1]
   refine jx3 ?_; refine rO (ok_call (fun hp => ct_rMul (lstZ (encK I cs j).1) pl.2.1 (lst_in _) hn2.1 (by rw [lst_len]; omega) zo) (.a rfl uu <| .a rfl uu <| .nil)) rfl rfl ?_
   rw [lst_val, ← hI2]
   refine jx3 ?_; refine rO (ok_call (fun hp => ct_rMul (lstZ (encK I cs j).2.1) pl.1 (lst_in _) hn1.1 (by rw [lst_len]; omega) zo) (.a rfl uu <| .a rfl uu <| .nil)) rfl rfl ?_
   rw [lst_val, ← hI1]
   refine jx3 ?_; refine rO (ok_call (fun hp => ct_rMul (lstZ (encK I cs j).2.1) pl.2.1 (lst_in _) hn2.1 (by rw [lst_len]; omega) zo) (.a rfl uu <| .a rfl uu <| .nil)) rfl rfl ?_
   rw [lst_val, ← hI2]
   refine rO (ok_buildL [(0, 1), (1, 1), (2, 1), (3, 1)] rfl (fun hp => .cons rfl rfl rfl <| .cons rfl rfl rfl <| .cons rfl rfl rfl <| .cons rfl rfl rfl <| .nil)) rfl rfl ?_; refine jd (ct_rbounds ((encK I cs j).1 * I.lo) ((encK I cs j).1 * I.hi) ((encK I cs j).2.1 * I.lo) ((encK I cs j).2.1 * I.hi) hco) ?_; refine jx13 ?_; refine tO (ok_call (fun hp => ct_rMul (lstZ (encK I cs j).2.2) pl.2.2 (lst_in _) hn3.1 (by rw [lst_len]; omega) zo) (.a rfl uu <| .a rfl uu <| .nil)) rfl rfl ?_
   rw [lst_val, ← hI3]
   refine jx3 ?_; refine Tr.draw 15 mixed (by kernel_rfl) ?_; refine jx5 ?_
   rw [hcx zo]
   refine jx1 ?_; refine rO (ok_call (fun hp => ct_rMul (lstZ (nth cs (cs.length - 1 - j))) (lstZ ((encK I cs j).2.2 * I.den)) (lst_in _) (lst_in _) (by rw [lst_len]; omega) (by rw [lst_len]; omega)) (.a rfl uu <| .a rfl uu <| .nil)) rfl rfl ?_
   rw [lst_val, lst_val]
   refine rO (ok_call (fun hp => ct_rAdd (lstZ (min4 ((encK I cs j).1 * I.lo) ((encK I cs j).1 * I.hi) ((encK I cs j).2.1 * I.lo) ((encK I cs j).2.1 * I.hi))) (lstZ ((nth cs (cs.length - 1 - j)) * ((encK I cs j).2.2 * I.den))) (lst_in _) (lst_in _) (by rw [lst_len]; omega) (by rw [lst_len]; omega)) (.a rfl uu <| .a rfl uu <| .nil)) rfl rfl ?_
   rw [lst_val, lst_val]
   refine jx5 ?_
   rw [hcx zo]
   refine jx1 ?_; refine rO (ok_call (fun hp => ct_rMul (lstZ (nth cs (cs.length - 1 - j))) (lstZ ((encK I cs j).2.2 * I.den)) (lst_in _) (lst_in _) (by rw [lst_len]; omega) (by rw [lst_len]; omega)) (.a rfl uu <| .a rfl uu <| .nil)) rfl rfl ?_
   rw [lst_val, lst_val]
   refine jx1 ?_; refine tO (ok_call (fun hp => ct_rAdd (lstZ (max4 ((encK I cs j).1 * I.lo) ((encK I cs j).1 * I.hi) ((encK I cs j).2.1 * I.lo) ((encK I cs j).2.1 * I.hi))) (lstZ ((nth cs (cs.length - 1 - j)) * ((encK I cs j).2.2 * I.den))) (lst_in _) (lst_in _) (by rw [lst_len]; omega) (by rw [lst_len]; omega)) (.a rfl uu <| .a rfl uu <| .nil)) rfl rfl ?_
   rw [lst_val, lst_val]
   refine jx10 ?_
   exact End.lp (j + 1) zi zo (Ent.mk (.r rfl (by rw [encK_step zo]) <| .r rfl (by rw [encK_step zo]) <| .r rfl (by rw [encK_step zo]) <| .i rfl zi <| zk) (.nil) rfl)
  ·intro h4
   replace h4 := Int.not_le.1 h4
   refine jx4 ?_
   exact End.cut (j) zo (Ent.mk (.r rfl zi <| .r rfl zi <| .r rfl zi <| .i rfl zi <| zk) (.nil) rfl)
 ·rintro j hjn
  refine je ?_
  rw [hjn, encK_end]
  refine jx12 ?_; exact Rts.res (fn := Tryz.f76) (ts := [4, 5, 6]) rfl rfl (.r rfl (by rfl) <| .r rfl (by rfl) <| .r rfl (by rfl) <| .nil)

set_option maxHeartbeats 1000000 in
theorem ct_rhalved (f : FdT) (pl : PlT) (I : Iv) (hI1 : I.lo = val pl.1) (hI2 : I.hi = val pl.2.1) (hI3 : I.den = val pl.2.2) (hn1 : InI pl.1 ∧ pl.1.length ≤ 73000) (hn2 : InI pl.2.1 ∧ pl.2.1.length ≤ 73000) (hn3 : InI pl.2.2 ∧ pl.2.2.length ≤ 73000) (hz : dl I.lo ≤ 73000 ∧ dl I.hi ≤ 73000 ∧ dl I.den ≤ 73000) (hpo : PolOk f.1) (hs : ∀ i, (nth f.1 i).natAbs ≤ 1000) (hs1 : sgn (hvP I.lo I.den f.1).1 ≠ 0) (hs2 : sgn (hvP (I.lo + I.hi) (I.den * 2) f.1).1 ≠ 0) : Ct Tryz.prog 77 [kRd eRr (f, ()), kRd ePl pl] (kRd ePl (lstZ (halveI f.1 I).lo, lstZ (halveI f.1 I).hi, lstZ (halveI f.1 I).den)) := by
 have hff : ((f, ()) : RrT).1.1.length = f.1.length := rfl
 have hn5 := hpo.1
 have hlo : LOk 1 (f.1.map fun c => [c]) := one_ok (fun i => Nat.le_trans (hs i) zo) zo
 have ha1 := dl_add I.lo I.hi
 have ha2 := dl_mul I.den 2
 have ha3 := dl_mul I.lo 2
 have ha4 := dl_mul I.hi 2
 have ha5 := dl_small (F := 2) zo zo
 have hv2 : val [2] = 2 := val_one
 have hhr := halve_ref hs1 hs2
 refine Ct.mk Tryz.func77 rfl Tryz.ntmps77 rfl (fun w J => ?_); refine jx2 ?_; refine jb 2 rfl ?_; refine jb 3 rfl ?_; refine ja 4 ?_; refine jx3 ?_; refine Tr.frzB 2 [2] eRr (x := (f, ())) ⟨rfl, trivial⟩ rfl ?_; refine Tr.frzB 3 [3] ePl (x := pl) ⟨rfl, trivial⟩ rfl ?_; refine jn ?_; refine jx10 ?_; refine Tr.grow (s := 5) rfl rfl 55 rfl 22 (eL eI) rfl ?_
 refine Tr.for1 (σ := Nat) [⟨2, true, _, _⟩, ⟨3, true, _, _⟩, ⟨4, true, _, _⟩] [⟨4, _, _⟩] (fun k => [⟨5, true, [55], kOsl 55 k⟩, ⟨6, true, [], kI (k : Int)⟩]) (fun k => [⟨55, [], cArr true 22 (eL eI) ((f.1.map fun c => [c]).take k) k⟩]) (fun k => k ≤ f.1.length) (fun k => k = f.1.length) (fun k => f.1.length - k) (0) zi (Ent.mk (.o rfl zi rfl <| .i rfl zi <| zk) (.a (by rfl) zi <| zk) rfl) ?_ ?_
 ·intro k hR0
  refine jn ?_; refine jx11 ?_; refine jq ?_ ?_
  ·intro h3
   refine jx12 ?_; refine tO (ok_bslJ eI (fun hp => .cons rfl <| .nil) rfl rfl rfl rfl) rfl rfl ?_; refine TrL.new (ok_bsl (eL eI) 26 (fun hp => .cons rfl <| .nil) rfl rfl rfl rfl) rfl rfl rfl rfl ?_; refine jx1 ?_; refine jl ?_; refine jx9 ?_
   exact End.lp (k + 1) zi zo (Ent.mk (.o rfl zi rfl <| .i rfl zi <| zk) (.a (take_map1 zo) zi <| zk) rfl)
  ·intro h3
   replace h3 := Int.not_lt.1 h3
   refine jx4 ?_
   exact End.cut (k) zo (Ent.mk (.o rfl zi rfl <| .i rfl zi <| zk) (zk) rfl)
 ·rintro k hkn
  refine je ?_
  have htk1 : (f.1.map fun c => [c]).take k = f.1.map fun c => [c] := List.take_of_length_le (by rw [List.length_map]; omega)
  rw [htk1]
  refine jx3 ?_; refine TrL.new (ok_bsl eI 28 (fun hp => .cons rfl <| .nil) rfl rfl rfl rfl) rfl rfl rfl rfl ?_; refine TrL.frz 28 [28] ⟨rfl, trivial⟩ (by decide) rfl ?_; refine jl ?_; refine jx4 ?_; refine Tr.draw 8 mixed (by kernel_rfl) ?_; refine jx4 ?_; refine jd (ct_rAdd pl.1 pl.2.1 hn1.1 hn2.1 zo zo) ?_
  rw [← hI1, ← hI2]
  refine jx4 ?_; refine tO (ok_call (fun hp => ct_rMul pl.2.2 [2] hn3.1 in2 zo (by show 1 ≤ _; omega)) (.a rfl uu <| .a rfl uu <| .nil)) rfl rfl ?_
  rw [← hI3, hv2]
  refine jx6 ?_; refine Tr.frz 55 [5] ⟨rfl, trivial⟩ (by simp only [lenMax]; omega) rfl ?_; refine jn ?_; refine jx1 ?_
  have hvb1 : dl (hvP I.lo I.den f.1).1 ≤ 5 * 73003 := by have := (hvK_dl (p := f.1) (B := 73000) (C := 1) hpo.2 hz.1 hz.2.2 (k := f.1.length) (Nat.le_refl _)).1; rw [hvK_end] at this; have h5 : f.1.length * (73000 + 1) ≤ 5 * 73001 := Nat.mul_le_mul zo zo; omega
  have hvb2 : dl (hvP (I.lo + I.hi) (I.den * 2) f.1).1 ≤ 5 * 73005 := by have := (hvK_dl (p := f.1) (B := 73001) (C := 1) (a := I.lo + I.hi) (d := I.den * 2) hpo.2 zo zo (k := f.1.length) (Nat.le_refl _)).1; rw [hvK_end] at this; have h5 : f.1.length * (73001 + 1) ≤ 5 * 73002 := Nat.mul_le_mul zo zo; omega
  refine jx5 ?_; refine jc (ct_rat (f.1.map fun c => [c]) pl.1 pl.2.2 73001 1 hlo (by rw [List.length_map]; omega) ⟨hn1.1, by omega⟩ ⟨hn3.1, by omega⟩ (by rw [← hI1]; omega) (by rw [← hI3]; omega) zo zo) ?_
  rw [one_val, ← hI1, ← hI3]
  refine tO (ok_call (fun hp => ct_rSign (lstZ (hvP I.lo I.den f.1).1) (lst_in _) (by rw [lst_len]; exact Nat.le_trans hvb1 zo)) (.a rfl uu <| .nil)) rfl rfl ?_
  rw [lst_val]
  refine jx3 ?_; refine tO (ok_call (fun hp => ct_rat (f.1.map fun c => [c]) (lstZ (I.lo + I.hi)) (lstZ (I.den * 2)) 73002 1 hlo (by rw [List.length_map]; omega) ⟨lst_in _, by rw [lst_len]; omega⟩ ⟨lst_in _, by rw [lst_len]; omega⟩ (by rw [lst_val]; omega) (by rw [lst_val]; omega) zo zo) (.a rfl uu <| .a rfl uu <| .a rfl uu <| .nil)) rfl rfl ?_
  rw [one_val, lst_val, lst_val]
  refine tO (ok_call (fun hp => ct_rSign (lstZ (hvP (I.lo + I.hi) (I.den * 2) f.1).1) (lst_in _) (by rw [lst_len]; exact Nat.le_trans hvb2 zo)) (.a rfl uu <| .nil)) rfl rfl ?_
  rw [lst_val]
  refine jx3 ?_; refine jq ?_ ?_
  ·intro h8
   replace hhr := hhr.trans (if_pos h8)
   refine jx5 ?_; refine tO (ok_call (fun hp => ct_rMul pl.1 [2] hn1.1 in2 zo (by show 1 ≤ _; omega)) (.a rfl uu <| .a rfl uu <| .nil)) rfl rfl ?_
   rw [← hI1, hv2]
   refine jx2 ?_; refine tO (ok_build (fun hp => .cons rfl rfl rfl <| .cons rfl rfl rfl <| .cons rfl rfl rfl <| .nil)) rfl rfl ?_; refine jx5 ?_; exact Rts.resC1 (fn := Tryz.f77) rfl rfl (aggRd rfl (by rw [hhr]))
  ·intro h8
   replace h8 := Classical.not_not.1 h8
   replace hhr := hhr.trans (if_neg (fun e => e h8))
   refine jx8 ?_; refine tO (ok_call (fun hp => ct_rMul pl.2.1 [2] hn2.1 in2 zo (by show 1 ≤ _; omega)) (.a rfl uu <| .a rfl uu <| .nil)) rfl rfl ?_
   rw [← hI2, hv2]
   refine jx1 ?_; refine tO (ok_build (fun hp => .cons rfl rfl rfl <| .cons rfl rfl rfl <| .cons rfl rfl rfl <| .nil)) rfl rfl ?_; refine jx4 ?_; exact Rts.resC1 (fn := Tryz.f77) rfl rfl (aggRd rfl (by rw [hhr]))

set_option maxHeartbeats 1000000 in
theorem ct_rSignN (f : FdT) (x : NumT) (h0 : chkF f = 0) (hx : NumOk 560 x) (hvb : NBd 540 (takeN f.1 x)) : Ct Tryz.prog 25 [kRd eRr (f, ()), kRd eNum x] (kI (sgV f.1 (ivF f) (takeN f.1 x))) := by
 obtain ⟨⟨c1, c2, c3⟩, c6⟩ := chkF_0 h0
 have hpo := pol_open h0
 have hv : RedN f.1 (takeN f.1 x) := take_RedN hpo
 have hvl := hv.len
 have htl := trim_len (xs := (takeN f.1 x).1)
 have hml : (giveN (takeN f.1 x)).1.length = (trimL (takeN f.1 x).1).length := List.length_map ..
 refine Ct.mk Tryz.func25 rfl Tryz.ntmps25 rfl (fun w J => ?_); refine jx2 ?_; refine jb 2 rfl ?_; refine jb 3 rfl ?_; refine jx4 ?_; refine Tr.frzB 2 [2] eRr (x := (f, ())) ⟨rfl, trivial⟩ rfl ?_; refine jn ?_; refine jx3 ?_; refine jc (ct_rNormalN f x 560 hpo c2 hx zo) ?_; refine jx5 ?_; refine Tr.frzB 3 [3] eNum (x := giveN (takeN f.1 x)) ⟨rfl, trivial⟩ rfl ?_; refine jn ?_; refine jx7 ?_; refine jq ?_ ?_
 ·intro h2
  have hr := trim_rat hvl zo
  have hz0 : nth (takeN f.1 x).1 0 = 0 := by rw [← nth_trim, nth_out zo]; rfl
  have hsv : sgV f.1 (ivF f) (takeN f.1 x) = 0 := by rw [sgV_rat hr, hz0]; rfl
  refine jx7 ?_; exact Rts.res1 (fn := Tryz.f25) rfl (.i rfl (by rw [hsv]) <| .nil)
 ·intro h2
  refine jx11 ?_; refine jq ?_ ?_
  ·intro h4
   have hr := trim_rat hvl zo
   have hsv : sgV f.1 (ivF f) (takeN f.1 x) = cmpZ (nth (takeN f.1 x).1 0) 0 := sgV_rat hr
   have hn0 : nth (giveN (takeN f.1 x)).1 0 = lstZ (nth (trimL (takeN f.1 x).1) 0) := nth_lst4 zo
   refine jx4 ?_; refine tO (ok_idxN (i := 0) rfl uu rfl uu rfl (fun _ => zo)) rfl rfl ?_; refine jx1 ?_
   rw [hn0]
   refine tO (ok_call (fun hp => ct_rSign (lstZ (nth (trimL (takeN f.1 x).1) 0)) (lst_in _) (by rw [lst_len, nth_trim]; exact Nat.le_trans (hvb.c 0) zo)) (.a rfl uu <| .nil)) rfl rfl ?_
   rw [lst_val, nth_trim]
   refine jx5 ?_; exact Rts.res1 (fn := Tryz.f25) rfl (.i rfl (by rw [hsv]) <| .nil)
  ·intro h4
   have hbig := trim_big hv zo
   have hf := fld_ok h0 hbig.2
   obtain ⟨K, q1, q2, q3⟩ := hf.bound (M := 540) (cs := (takeN f.1 x).1.take (f.1.length - 1)) (by rw [List.length_take]; omega) (rat_ne hbig.2 hv hbig.1).2 (fun c hc => by obtain ⟨i, hi, rfl⟩ := List.mem_iff_getElem.1 hc; have e : ((takeN f.1 x).1.take (f.1.length - 1))[i] = nth (takeN f.1 x).1 i := (by rw [List.length_take] at hi; rw [List.getElem_take]; have : i < (takeN f.1 x).1.length := zo; simp [nth, this]); rw [e]; exact hvb.c i) zo zo
   have hsF : sgV f.1 (ivF f) (takeN f.1 x) = sgnF f.1 (ivF f) ((takeN f.1 x).1.take (f.1.length - 1)) := if_neg hbig.1
   refine jx7 ?_; refine tO (ok_bslJ eI (fun hp => .cons rfl <| .nil) rfl rfl rfl rfl) rfl rfl ?_; refine jx3 ?_; refine tO (ok_bslJ eI (fun hp => .cons rfl <| .nil) rfl rfl rfl rfl) rfl rfl ?_; refine jx3 ?_; refine tO (ok_bslJ eI (fun hp => .cons rfl <| .nil) rfl rfl rfl rfl) rfl rfl ?_; refine tO (ok_build (fun hp => .cons rfl rfl rfl <| .cons rfl rfl rfl <| .cons rfl rfl rfl <| .nil)) rfl rfl ?_; refine ja 5 ?_; refine jx3 ?_
   refine Tr.for1 (σ := Nat) [⟨2, true, _, _⟩, ⟨3, true, _, _⟩, ⟨5, true, _, _⟩] [] (fun k => []) (fun k => [⟨5, [], cBlk [kRd (eL eI) (plL (f.2.1, f.2.2.1, f.2.2.2) (ivK f.1 (ivF f) (k)) (k)).1, kRd (eL eI) (plL (f.2.1, f.2.2.1, f.2.2.2) (ivK f.1 (ivF f) (k)) (k)).2.1, kRd (eL eI) (plL (f.2.1, f.2.2.1, f.2.2.2) (ivK f.1 (ivF f) (k)) (k)).2.2]⟩]) (fun k => k ≤ K) (fun k => False) (fun k => K - k) (0) zi (Ent.mk (zk) (.e (by rfl) rfl <| .nil) rfl) ?_ ?_
   ·intro k hR0
    refine jn ?_
    have hz := q3 k hR0
    have pv := plK_val (f := f) (k := k)
    have pin := plK_in c3 zo hz
    have hst := sg_tr hv c1.2 hf.iv (k := k)
    have hip := (ivK_ok hf.iv (p := f.1) (k := k)).pos
    have heb := encK_dl (I := (ivK f.1 (ivF f) k)) (A := 73000) (C := 540) hz.1 hz.2.1 hz.2.2 (fun i => by rw [nth_trim]; exact hvb.c i) (cs := (trimL (takeN f.1 x).1)) (k := (trimL (takeN f.1 x).1).length) (Nat.le_refl _)
    rw [encK_end] at heb
    have hj5 : (trimL (takeN f.1 x).1).length * (73000 + 1) ≤ 4 * 73001 := Nat.mul_le_mul zo zo
    refine jx6 ?_; refine jc (ct_renclosed (trimL (takeN f.1 x).1) (plL (f.2.1, f.2.2.1, f.2.2.2) (ivK f.1 (ivF f) (k)) (k)) (ivK f.1 (ivF f) k) pv.1 pv.2.1 pv.2.2 pin.1 pin.2.1 pin.2.2 hz zo (fun i => by rw [nth_trim]; exact hvb.c i)) ?_; refine jx13 ?_; refine tO (ok_call (fun hp => ct_rSign (lstZ (enc (ivK f.1 (ivF f) k) (trimL (takeN f.1 x).1)).1) (lst_in _) (by rw [lst_len]; omega)) (.a rfl uu <| .nil)) rfl rfl ?_
    rw [lst_val]
    refine jx3 ?_; refine jq ?_ ?_
    ·intro h8
     have hsv : sgV f.1 (ivF f) (takeN f.1 x) = 1 := by rw [hsF]; exact sgnF_pos (hst.1.1 (cmZgt.1 h8))
     refine jx11 ?_; exact Rts.res1 (fn := Tryz.f25) rfl (.i rfl (by rw [hsv]) <| .nil)
    ·intro h8
     replace h8 := Int.not_lt.1 h8
     have hn8 : ¬ 0 < (enc (ivK f.1 (ivF f) k) (trimL (takeN f.1 x).1)).1 := fun e => absurd (cmZgt.2 e) zo
     refine jx6 ?_; refine tO (ok_call (fun hp => ct_rSign (lstZ (enc (ivK f.1 (ivF f) k) (trimL (takeN f.1 x).1)).2.1) (lst_in _) (by rw [lst_len]; omega)) (.a rfl uu <| .nil)) rfl rfl ?_
     rw [lst_val]
     refine jx3 ?_; refine jq ?_ ?_
     ·intro h10
      have hsv : sgV f.1 (ivF f) (takeN f.1 x) = -1 := by rw [hsF]; exact sgnF_neg hf.iv (hst.2.1 (cmZlt.1 h10))
      refine jx11 ?_; exact Rts.res1 (fn := Tryz.f25) rfl (.i rfl (by rw [hsv]) <| .nil)
     ·intro h10
      replace h10 := Int.not_lt.1 h10
      have hn10 : ¬ (enc (ivK f.1 (ivF f) k) (trimL (takeN f.1 x).1)).2.1 < 0 := fun e => absurd (cmZlt.2 e) zo
      have hkK : k < K := Classical.byContradiction fun e => (q2 k zo).elim (fun e => hn8 (hst.1.2 e)) (fun e => hn10 (hst.2.2 e))
      refine jx5 ?_; refine tO (ok_call (fun hp => ct_rhalved f (plL (f.2.1, f.2.2.1, f.2.2.2) (ivK f.1 (ivF f) (k)) (k)) (ivK f.1 (ivF f) k) pv.1 pv.2.1 pv.2.2 pin.1 pin.2.1 pin.2.2 hz hpo c2 (sgn_hm (hf.noroot _ _ hip)) (sgn_hm (hf.noroot _ _ zo))) (.a rfl uu <| .se rfl uu rfl rfl <| .nil)) rfl rfl ?_; refine jx3 ?_; exact End.lp (k + 1) zo zo (Ent.mk (zk) (.e (by rfl) rfl <| .nil) rfl)
   ·intro k hE0
    exact hE0.elim

end Go.Fl

/- Sums of lengths in any order; orbits. No program in sight. -/
namespace Go.Fl
open Go
theorem perm_sum {l l' : List Int} (h : l.Perm l') : l.foldr (· + ·) 0 = l'.foldr (· + ·) 0 := by
 induction h with
 | nil => rfl
 | cons x _ ih => simp only [List.foldr_cons, ih]
 | swap x y l => simp only [List.foldr_cons]; omega
 | trans _ _ h1 h2 => exact h1.trans h2
theorem sumTo_foldr {F : Nat → Int} : ∀ {k : Nat}, sumTo F k = ((List.range k).map F).foldr (· + ·) 0
 | 0 => rfl
 | k + 1 => by
  have key : ∀ (l : List Int) (x : Int), (l ++ [x]).foldr (· + ·) 0 = l.foldr (· + ·) 0 + x := by
   intro l x
   induction l with
   | nil => simp
   | cons y l ih => simp only [List.cons_append, List.foldr_cons, ih]; omega
  rw [sumTo_succ, sumTo_foldr, List.range_succ, List.map_append, List.map_cons, List.map_nil, key]
theorem row_perm {row : List Int} {n : Nat} (h : pmR row n) : (row.map Int.toNat).Perm (List.range n) := by
 have hn : (row.map Int.toNat).Nodup := by
  refine List.pairwise_iff_getElem.2 fun i j hi hj hij e => ?_
  rw [List.length_map] at hi hj
  simp only [List.getElem_map] at e
  have a1 := h.1 i hi
  have a2 := h.1 j hj
  have e1 : nth row i = row[i] := by simp [nth, hi]
  have e2 : nth row j = row[j] := by simp [nth, hj]
  have := nodup_nth h.2.1 hi hj (by rw [e1, e2]; rw [e1] at a1; rw [e2] at a2; omega)
  omega
 refine (List.perm_ext_iff_of_nodup hn List.nodup_range).2 fun a => ?_
 rw [List.mem_map, List.mem_range]
 constructor
 ·rintro ⟨x, hx, rfl⟩
  obtain ⟨i, hi, rfl⟩ := List.mem_iff_getElem.1 hx
  have a1 := h.1 i hi
  have e1 : nth row i = row[i] := by simp [nth, hi]
  rw [e1] at a1
  omega
 ·intro ha
  obtain ⟨j, hj, hja⟩ := perm_mem h.2.1 h.1 h.2.2 (x := (a : Int)) zo zo
  have hl := h.2.2
  exact ⟨nth row j, nth_mem zo, by rw [hja]; rfl⟩
theorem sum_row {row : List Int} {n : Nat} (h : pmR row n) {F : Nat → Int} : sumTo (fun j => F (nth row j).toNat) n = sumTo F n := by
 rw [sumTo_foldr, sumTo_foldr]
 have e : (List.range n).map (fun j => F (nth row j).toNat) = (row.map Int.toNat).map F := by
  rw [List.map_map]
  refine ext_nth (by simp [h.2.2]) fun i hi => ?_
  have hi : i < n := by simpa using hi
  have hl := h.2.2
  simp [nth, hi, hl]
 rw [e]
 exact perm_sum ((row_perm h).map F)
theorem adV_same {D : Int} {cs cs' : List Int} (hD : 0 < D) : adV (loN cs D) (loN cs' D) = loN (tab 4 fun i => nth cs i + nth cs' i) D := by
 have hD0 : D ≠ 0 := by omega
 have p1 := low_pos (cs := cs) hD0
 have p2 := low_pos (cs := cs') hD0
 have p3 := Int.mul_pos p1 p2
 refine low_eq zo hD0 ?_
 rw [tab_mul, tab_mul]
 refine tab_congr fun i _ => ?_
 have e1 := low_cross (cs := cs) hD0 i
 have e2 := low_cross (cs := cs') hD0 i
 generalize nth (loN cs D).1 i = a at *
 generalize nth (loN cs' D).1 i = b at *
 generalize (loN cs D).2 = c at *
 generalize (loN cs' D).2 = d at *
 generalize nth cs i = u at *
 generalize nth cs' i = v at *
 calc (a * d + b * c) * D = (a * D) * d + (b * D) * c := by rw [Int.add_mul]; congr 1 <;> ac_rfl
  _ = u * c * d + v * d * c := by rw [e1, e2]
  _ = (u + v) * (c * d) := by rw [Int.add_mul]; congr 1 <;> ac_rfl
def smV (ls : List NvT) : Nat → NvT
 | 0 => intV 0
 | k + 1 => adV (smV ls k) (nth ls k)
theorem int0_low {D : Int} (hD : 0 < D) : intV 0 = loN (tab 4 fun _ => 0) D := by
 have : intV 0 = loN [0, 0, 0, 0] 1 := low_one.symm
 rw [this]
 exact low_eq (by decide) zo (by simp [tab, List.range, List.range.loop])
theorem pt_low {D : Int} {ls : List NvT} {row : List Int} {cs : Nat → List Int} (hD : 0 < D) : ∀ {k : Nat}, (∀ j, j < k → nth ls (nth row j).toNat = loN (cs (nth row j).toNat) D) → ptV ls row k = loN (tab 4 fun i => sumTo (fun j => nth (cs (nth row j).toNat) i) k) D
 | 0, _ => int0_low hD
 | k + 1, h => by
  rw [ptV, pt_low hD (fun j hj => h j zo), h k zo, adV_same hD]
  exact congrArg (fun l => loN l D) (tab_congr fun i hi => by rw [nth_tab hi, sumTo_succ])
theorem sm_low {D : Int} {ls : List NvT} {cs : Nat → List Int} (hD : 0 < D) : ∀ {k : Nat}, (∀ j, j < k → nth ls j = loN (cs j) D) → smV ls k = loN (tab 4 fun i => sumTo (fun j => nth (cs j) i) k) D
 | 0, _ => int0_low hD
 | k + 1, h => by
  rw [smV, sm_low hD (fun j hj => h j zo), h k zo, adV_same hD]
  exact congrArg (fun l => loN l D) (tab_congr fun i hi => by rw [nth_tab hi, sumTo_succ])
theorem LenOk.cs {p : List Int} {D : Int} {M n : Nat} {ls : List NvT} (h : LenOk p D M n ls) : ∃ cs : Nat → List Int, ∀ a, a < n → nth ls a = loN (cs a) D := by
 have : ∀ a, ∃ c : List Int, a < n → nth ls a = loN c D := fun a => by
  by_cases ha : a < n
  ·obtain ⟨c, _, h2, _⟩ := h.hb a ha
   exact ⟨c, fun _ => h2⟩
  ·exact ⟨[], fun h => absurd h ha⟩
 exact ⟨fun a => (this a).choose, fun a ha => (this a).choose_spec ha⟩
theorem tot_eq {p : List Int} {D : Int} {M n : Nat} {ls : List NvT} {row : List Int} (h : LenOk p D M n ls) (hr : pmR row n) : totV ls row = smV ls n := by
 obtain ⟨cs, hc⟩ := h.cs
 have hl := hr.2.2
 unfold totV
 rw [hl, pt_low h.pos (cs := cs) (fun j hj => hc _ (by have := hr.1 j zo; omega)), sm_low h.pos (cs := cs) hc]
 congr 1
 exact tab_congr fun i _ => sum_row hr (F := fun a => nth (cs a) i)
theorem sm_ok {p : List Int} {D : Int} {M n : Nat} {ls : List NvT} (hp : PolOk p) (h : LenOk p D M n ls) : ∀ k, k ≤ n → RedN p (smV ls k) ∧ HB D (k * M) (smV ls k)
 | 0, _ => ⟨int_RedN hp 0, by rw [Nat.zero_mul]; exact HB.zero h.pos⟩
 | k + 1, hk => by
  obtain ⟨h1, h2⟩ := sm_ok hp h k zo
  refine ⟨add_RedN h1 (h.red _ zo), ?_⟩
  rw [Nat.succ_mul]
  exact h2.add h.pos (h.hb _ zo)
def orV (sg : NvT → Int) (o : List Int × List Int) (ls : List NvT) (pv : NvT) : Nat → NvT
 | 0 => pv
 | k + 1 => imgV o ls (orV sg o ls pv k) (letV sg (plV ls o.1) o.1 (orV sg o ls pv k) (o.1.length - 1))
def ltV (sg : NvT → Int) (o : List Int × List Int) (ls : List NvT) (pv : NvT) (k : Nat) : Int := letV sg (plV ls o.1) o.1 (orV sg o ls pv k) (o.1.length - 1)
end Go.Fl

/- Contracts: exchanges of the reference: errors, places, shifts. -/
namespace Go.Fl
open Go Go.Proofs
open TrL renaming op → tO
open RunD renaming op → rO
set_option maxRecDepth 100000

def InN (x : NumT) : Prop := (∀ i, InI (nth x.1 i)) ∧ InI x.2
def shB (x : NumT) (k : Nat) : Bool := decide (x.1.length ≤ 6) && decide (x.2.length ≤ k) && x.1.all fun c => decide (c.length ≤ k)
theorem shB_ok {x : NumT} {k : Nat} (h : shB x k = true) (hi : InN x) : NumOk k x := by
 unfold shB at h
 simp only [Bool.and_eq_true, decide_eq_true_eq, List.all_eq_true] at h
 obtain ⟨⟨h1, h2⟩, h3⟩ := h
 refine ⟨h1, fun i => ⟨hi.1 i, ?_⟩, hi.2, h2⟩
 by_cases hl : i < x.1.length
 ·exact h3 _ (nth_mem hl)
 ·rw [nth_out zo]; exact Nat.zero_le _
def smB (x : ExT) : Bool := decide (x.2.1.length ≤ 12) && decide (x.2.2.1.length ≤ 12) && decide (x.2.2.2.length ≤ 12) && decide (x.1.1.length ≤ 8) && x.2.2.2.all fun l => shB l 2
structure SmX (x : ExT) : Prop where
 top : x.2.1.length ≤ 12
 bot : x.2.2.1.length ≤ 12
 len : x.2.2.2.length ≤ 12
 num : ∀ a, NumOk 2 (nth x.2.2.2 a)
theorem num_nil {k : Nat} : NumOk k ([], []) := ⟨by simp, fun i => ⟨by rw [nth_nil]; exact inI_nil, by rw [nth_nil]; exact Nat.zero_le _⟩, inI_nil, Nat.zero_le _⟩
theorem smB_ok {x : ExT} (h : smB x = true) (hi : ∀ a, InN (nth x.2.2.2 a)) : SmX x := by
 unfold smB at h
 simp only [Bool.and_eq_true, decide_eq_true_eq, List.all_eq_true] at h
 obtain ⟨⟨⟨⟨h1, h2⟩, h3⟩, h4⟩, h5⟩ := h
 refine ⟨h1, h2, h3, fun a => ?_⟩
 by_cases ha : a < x.2.2.2.length
 ·exact shB_ok (h5 _ (nth_mem ha)) (hi a)
 ·rw [nth_out zo]; exact num_nil
noncomputable abbrev sgX (x : ExT) : NvT → Int := sgV x.1.1 (ivF x.1)
abbrev lsX (x : ExT) : List NvT := x.2.2.2.map (takeN x.1.1)
structure XOk (x : ExT) : Prop where
 fld : chkF x.1 = 0
 rows : RowsOk (x.2.1, x.2.2.1)
 len : x.2.2.2.length = x.2.1.length
 num : ∀ a, a < x.2.1.length → NumOk 2 (nth x.2.2.2 a)
 pos : ∀ a, a < x.2.1.length → 0 < sgX x (takeN x.1.1 (nth x.2.2.2 a))
open Classical in
noncomputable def chkX (x : ExT) : Int := if chkF x.1 ≠ 0 then chkF x.1 else if chkR (x.2.1, x.2.2.1) ≠ 0 then chkR (x.2.1, x.2.2.1) else if x.2.2.2.length ≠ x.2.1.length then 10 else if ∀ a, a < x.2.2.2.length → 0 < sgX x (takeN x.1.1 (nth x.2.2.2 a)) then 0 else 12
theorem chkX_ok {x : ExT} (h : chkX x = 0) (hs : SmX x) : XOk x := by
 unfold chkX at h
 by_cases c1 : chkF x.1 = 0
 ·rw [if_neg (fun e => e c1)] at h
  by_cases c2 : chkR (x.2.1, x.2.2.1) = 0
  ·rw [if_neg (fun e => e c2)] at h
   by_cases c3 : x.2.2.2.length = x.2.1.length
   ·rw [if_neg (fun e => e c3)] at h
    by_cases c4 : ∀ a, a < x.2.2.2.length → 0 < sgX x (takeN x.1.1 (nth x.2.2.2 a))
    ·exact ⟨c1, rows_of c2, c3, fun a _ => hs.num a, fun a ha => c4 a zo⟩
    ·rw [if_neg c4] at h; exact absurd h (by decide)
   ·rw [if_pos c3] at h; exact absurd h (by decide)
  ·rw [if_pos c2] at h; exact absurd h c2
 ·rw [if_pos c1] at h; exact absurd h c1
theorem ct_bShort (x : NumT) (k : Nat) : Ct Tryz.prog 14 [kRd eNum x, kI (k : Int)] (kB (shB x k)) := by
 refine Ct.mk Tryz.func14 rfl Tryz.ntmps14 rfl (fun w J => ?_); refine jx2 ?_; refine jb 2 rfl ?_; refine jx5 ?_; refine Tr.frzB 2 [2] eNum (x := x) ⟨rfl, trivial⟩ rfl ?_; refine jn ?_; refine jx14 ?_; refine Tr.cnd rfl ?_ ?_
 ·intro h1
  have hr : shB x k = false := by simp at h1; unfold shB; simp; omega
  refine jx7 ?_; exact Rts.res1 (fn := Tryz.f14) rfl (.b rfl (by rw [hr]) <| .nil)
 ·intro h1
  have h12 : x.1.length ≤ 6 ∧ x.2.length ≤ k := by simp at h1; omega
  refine jx8 ?_
  refine Tr.for1 (σ := Nat) [⟨1, true, _, _⟩, ⟨2, true, _, _⟩] [] (fun i => [⟨5, true, [], kI (i : Int)⟩]) (fun i => []) (fun i => i ≤ x.1.length ∧ ∀ j, j < i → (nth x.1 j).length ≤ k) (fun i => ∀ j, j < x.1.length → (nth x.1 j).length ≤ k) (fun i => x.1.length - i) (0) ⟨by omega, fun j h => absurd h (Nat.not_lt_zero _)⟩ (Ent.mk (.i rfl zi <| zk) (.nil) rfl) ?_ ?_
  ·rintro i ⟨hi, hR⟩
   refine jn ?_; refine jx10 ?_; refine jq ?_ ?_
   ·intro h4
    refine jx16 ?_; refine jq ?_ ?_
    ·intro h6
     have hr : shB x k = false := by unfold shB; simp only [Bool.and_eq_false_iff, List.all_eq_false, decide_eq_true_eq]; exact .inr ⟨nth x.1 i, nth_mem zo, by omega⟩
     refine jx12 ?_; exact Rts.res1 (fn := Tryz.f14) rfl (.b rfl (by rw [hr]) <| .nil)
    ·intro h6
     replace h6 := Int.not_lt.1 h6
     have hok : (nth x.1 i).length ≤ k := by omega
     refine jx8 ?_
     exact End.lp (i + 1) ⟨by omega, fun j hj => by by_cases e : j = i; (rw [e]; exact hok); exact hR j zo⟩ zo (Ent.mk (.i rfl zi <| zk) (.nil) rfl)
   ·intro h4
    replace h4 := Int.not_lt.1 h4
    refine jx4 ?_
    exact End.cut (i) (fun j hj => hR j zo) (Ent.mk (.i rfl zi <| zk) (.nil) rfl)
  ·intro i hE
   refine je ?_
   have hr : shB x k = true := by unfold shB; simp only [Bool.and_eq_true, decide_eq_true_eq, List.all_eq_true]; exact ⟨h12, fun c hc => by obtain ⟨j, hj, rfl⟩ := List.mem_iff_getElem.1 hc; have := hE j hj; have e : nth x.1 j = x.1[j] := (by simp [nth, hj]); rw [e] at this; exact this⟩
   refine jx7 ?_; exact Rts.res1 (fn := Tryz.f14) rfl (.b rfl (by rw [hr]) <| .nil)

theorem ct_bSameNums (a b : List NumT) : Ct Tryz.prog 22 [kRd (eL eNum) a, kRd (eL eNum) b] (kB (decide (a = b))) := by
 refine Ct.mk Tryz.func22 rfl Tryz.ntmps22 rfl (fun w J => ?_); refine Tr.fact (s := 0) rfl (fun _ _ h => lenB h) (fun hb => ?_); refine jx15 ?_; refine jq ?_ ?_
 ·intro h1
  have hne : a ≠ b := fun e => h1 (by rw [e])
  refine jx7 ?_; exact Rts.res1 (fn := Tryz.f22) rfl (.b rfl (by symm; rw [decide_eq_false_iff_not]; exact hne) <| .nil)
 ·intro h1
  replace h1 := Classical.not_not.1 h1
  have hll : a.length = b.length := by omega
  refine jx8 ?_
  refine Tr.for1 (σ := Nat) [⟨0, true, _, _⟩, ⟨1, true, _, _⟩] [] (fun k => [⟨5, true, [], kI (k : Int)⟩]) (fun k => []) (fun k => k ≤ a.length ∧ ∀ i, i < k → nth a i = nth b i) (fun k => ∀ i, i < a.length → nth a i = nth b i) (fun k => a.length - k) (0) ⟨Nat.zero_le _, fun i h => absurd h (Nat.not_lt_zero _)⟩ (Ent.mk (.i rfl zi <| zk) (.nil) rfl) ?_ ?_
  ·rintro k ⟨hk, hR⟩
   refine jn ?_; refine jx9 ?_; refine jq ?_ ?_
   ·intro h4
    refine jx5 ?_; refine Tr.draw 8 mixed (by kernel_rfl) ?_; refine jx9 ?_; refine jc (ct_bSameNum (nth a k) (nth b k)) ?_; refine jx3 ?_; refine Tr.cnd rfl ?_ ?_
    ·intro h6
     have hne : a ≠ b := fun e => by subst e; simp at h6
     refine jx12 ?_; exact Rts.res1 (fn := Tryz.f22) rfl (.b rfl (by symm; rw [decide_eq_false_iff_not]; exact hne) <| .nil)
    ·intro h6
     have hkk : nth a k = nth b k := by simpa using h6
     refine jx8 ?_
     exact End.lp (k + 1) ⟨by omega, fun i hi => by by_cases e : i = k; (rw [e]; exact hkk); exact hR i zo⟩ zo (Ent.mk (.i rfl zi <| zk) (.nil) rfl)
   ·intro h4
    replace h4 := Int.not_lt.1 h4
    refine jx4 ?_
    exact End.cut (k) (fun i hi => hR i zo) (Ent.mk (.i rfl zi <| zk) (.nil) rfl)
  ·rintro k hE
   refine je ?_; refine jx7 ?_; exact Rts.res1 (fn := Tryz.f22) rfl (.b rfl (by symm; rw [decide_eq_true_eq]; exact ext_nth hll hE) <| .nil)

theorem ct_rRowsOf (x : ExT) : Ct Tryz.prog 65 [kRd eX x] (kRd eO (x.2.1, x.2.2.1)) := by
 refine Ct.mk Tryz.func65 rfl Tryz.ntmps65 rfl (fun w J => ?_); refine jx2 ?_; refine jb 1 rfl ?_; refine ja 2 ?_; refine jx8 ?_; refine tO (ok_build (fun hp => .cons rfl rfl rfl <| .cons rfl rfl rfl <| .nil)) rfl rfl ?_; refine jx4 ?_; exact Rts.resC1 (fn := Tryz.f65) rfl rfl (aggRd rfl (by rfl))

theorem ct_xfew (r : Ori) : Ct Tryz.prog 52 [kRd eO r] (kB (decide (r.1.length ≤ 12) && decide (r.2.length ≤ 12))) := by
 refine Ct.mk Tryz.func52 rfl Tryz.ntmps52 rfl (fun w J => ?_); refine jx2 ?_; refine jb 1 rfl ?_; refine jx4 ?_; refine Tr.frzB 1 [1] eO (x := r) ⟨rfl, trivial⟩ rfl ?_; refine jn ?_; refine jx15 ?_; exact Rts.res1 (fn := Tryz.f52) rfl (.b rfl (by congr 1 <;> exact decide_eq_decide.2 zo) <| .nil)

theorem ct_xSmall (x : ExT) : Ct Tryz.prog 13 [kRd eX x] (kB (smB x)) := by
 refine Ct.mk Tryz.func13 rfl Tryz.ntmps13 rfl (fun w J => ?_); refine jx2 ?_; refine jb 1 rfl ?_; refine jx5 ?_; refine Tr.frzB 1 [1] eX (x := x) ⟨rfl, trivial⟩ rfl ?_; refine jn ?_; refine jx2 ?_; refine tO (ok_call (fun hp => ct_rRowsOf _) (.a rfl uu <| .nil)) rfl rfl ?_; refine tO (ok_call (fun hp => ct_xfew _) (.a rfl uu <| .nil)) rfl rfl ?_; refine jx16 ?_; refine Tr.cnd rfl ?_ ?_
 ·intro h1
  have hr : smB x = false := by simp at h1; unfold smB; simp only [Bool.and_eq_false_iff, decide_eq_false_iff_not]; omega
  refine jx7 ?_; exact Rts.res1 (fn := Tryz.f13) rfl (.b rfl (by rw [hr]) <| .nil)
 ·intro h1
  have h12 : ((x.2.1.length ≤ 12 ∧ x.2.2.1.length ≤ 12) ∧ x.2.2.2.length ≤ 12) ∧ x.1.1.length ≤ 8 := by simp at h1; omega
  refine jx8 ?_
  refine Tr.for1 (σ := Nat) [⟨1, true, _, _⟩] [] (fun i => [⟨3, true, [], kI (i : Int)⟩]) (fun i => []) (fun i => i ≤ x.2.2.2.length ∧ ∀ j, j < i → shB (nth x.2.2.2 j) 2 = true) (fun i => ∀ j, j < x.2.2.2.length → shB (nth x.2.2.2 j) 2 = true) (fun i => x.2.2.2.length - i) (0) ⟨by omega, fun j h => absurd h (Nat.not_lt_zero _)⟩ (Ent.mk (.i rfl zi <| zk) (.nil) rfl) ?_ ?_
  ·rintro i ⟨hi, hR⟩
   refine jn ?_; refine jx10 ?_; refine jq ?_ ?_
   ·intro h4
    refine jx11 ?_; refine jc (ct_bShort (nth x.2.2.2 i) 2) ?_; refine jx3 ?_; refine Tr.cnd rfl ?_ ?_
    ·intro h6
     have hr : smB x = false := by unfold smB; simp only [Bool.and_eq_false_iff, List.all_eq_false]; exact .inr ⟨nth x.2.2.2 i, nth_mem zo, by simpa using h6⟩
     refine jx12 ?_; exact Rts.res1 (fn := Tryz.f13) rfl (.b rfl (by rw [hr]) <| .nil)
    ·intro h6
     have hok : shB (nth x.2.2.2 i) 2 = true := by simpa using h6
     refine jx8 ?_
     exact End.lp (i + 1) ⟨by omega, fun j hj => by by_cases e : j = i; (rw [e]; exact hok); exact hR j zo⟩ zo (Ent.mk (.i rfl zi <| zk) (.nil) rfl)
   ·intro h4
    replace h4 := Int.not_lt.1 h4
    refine jx4 ?_
    exact End.cut (i) (fun j hj => hR j zo) (Ent.mk (.i rfl zi <| zk) (.nil) rfl)
  ·intro i hE
   refine je ?_
   have hr : smB x = true := by unfold smB; simp only [Bool.and_eq_true, decide_eq_true_eq, List.all_eq_true]; exact ⟨h12, fun c hc => by obtain ⟨j, hj, rfl⟩ := List.mem_iff_getElem.1 hc; have := hE j hj; have e : nth x.2.2.2 j = x.2.2.2[j] := (by simp [nth, hj]); rw [e] at this; exact this⟩
   refine jx7 ?_; exact Rts.res1 (fn := Tryz.f13) rfl (.b rfl (by rw [hr]) <| .nil)

end Go.Fl

/- Contracts: exchanges of the reference: errors, places, shifts, orbits. -/
namespace Go.Fl
open Go Go.Proofs
open TrL renaming op → tO
open RunD renaming op → rO
set_option maxRecDepth 100000

theorem ct_rxCheckF (x : ExT) (h0 : chkF x.1 ≠ 0) : Ct Tryz.prog 17 [kRd eX x] (kI (chkX x)) := by
 refine Ct.mk Tryz.func17 rfl Tryz.ntmps17 rfl (fun w J => ?_); refine jx2 ?_; refine jb 1 rfl ?_; refine jx4 ?_; refine Tr.frzB 1 [1] eX (x := x) ⟨rfl, trivial⟩ rfl ?_; refine jn ?_; refine jx3 ?_; refine jc (ct_rOpenE x.1 h0) ?_; refine jx3 ?_; refine ja 3 ?_; refine jx11 ?_; refine Tr.cnd rfl ?_ ?_
 ·intro h2
  refine jx8 ?_; exact Rts.res1 (fn := Tryz.f17) rfl (.i rfl (by unfold chkX; rw [if_pos h0]) <| .nil)
 ·intro h2
  exact absurd (of_decide_eq_false h2) (fun e => e h0)

theorem ct_rxCheckG (x : ExT) (h0 : chkF x.1 = 0) (hsm : SmX x) : Ct Tryz.prog 17 [kRd eX x] (kI (chkX x)) := by
 have he1 := (if_neg (fun e => e h0) : chkX x = _)
 have hpo := pol_open h0
 have hsl := hsm.len
 have hpo := pol_open h0
 refine Ct.mk Tryz.func17 rfl Tryz.ntmps17 rfl (fun w J => ?_); refine jx2 ?_; refine jb 1 rfl ?_; refine jx4 ?_; refine Tr.frzB 1 [1] eX (x := x) ⟨rfl, trivial⟩ rfl ?_; refine jn ?_; refine jx3 ?_; refine jc (ct_rOpen x.1 h0) ?_; refine jx3 ?_; refine ja 3 ?_; refine jx11 ?_; refine Tr.cnd rfl ?_ ?_
 ·intro h2
  exact absurd h2 (by decide)
 ·intro h2
  refine jx6 ?_; refine tO (ok_call (fun hp => ct_rRowsOf _) (.a rfl uu <| .nil)) rfl rfl ?_; refine jc (ct_rCheckRows (x.2.1, x.2.2.1)) ?_; refine jx9 ?_; refine jq ?_ ?_
  ·intro h5
   have hr : chkX x = chkR (x.2.1, x.2.2.1) := he1.trans (if_pos h5)
   refine jx8 ?_; exact Rts.res1 (fn := Tryz.f17) rfl (.i rfl (by rw [hr]) <| .nil)
  ·intro h5
   replace h5 := Classical.not_not.1 h5
   have he2 := he1.trans (if_neg (fun e => e h5))
   refine jx14 ?_; refine jq ?_ ?_
   ·intro h7
    have hr : chkX x = 10 := he2.trans (if_pos zo)
    refine jx7 ?_; exact Rts.res1 (fn := Tryz.f17) rfl (.i rfl (by rw [hr]) <| .nil)
   ·intro h7
    replace h7 := Classical.not_not.1 h7
    have he3 := he2.trans (if_neg zo)
    refine jx8 ?_
    refine Tr.for1 (σ := Nat) [⟨1, true, _, _⟩, ⟨3, true, _, _⟩] [⟨3, _, _⟩] (fun i => [⟨6, true, [], kI (i : Int)⟩]) (fun i => []) (fun i => i ≤ x.2.2.2.length ∧ ∀ j, j < i → 0 < sgV x.1.1 (ivF x.1) (takeN x.1.1 (nth x.2.2.2 j))) (fun i => ∀ j, j < x.2.2.2.length → 0 < sgV x.1.1 (ivF x.1) (takeN x.1.1 (nth x.2.2.2 j))) (fun i => x.2.2.2.length - i) (0) ⟨by omega, fun j h => absurd h (Nat.not_lt_zero _)⟩ (Ent.mk (.i rfl zi <| zk) (zk) rfl) ?_ ?_
    ·rintro i ⟨hi, hR⟩
     refine jn ?_; refine jx10 ?_; refine jq ?_ ?_
     ·intro h10
      refine jx5 ?_; refine Tr.draw 6 mixed (by kernel_rfl) ?_; refine jx7 ?_; refine jc (ct_rSignN x.1 (nth x.2.2.2 i) h0 ((hsm.num i).mono zo) ((take_NBd hpo (hsm.num i)).mono zo)) ?_; refine jx3 ?_; refine jq ?_ ?_
      ·intro h12
       have hr : chkX x = 12 := he3.trans (if_neg (fun e => by have e2 : 0 < sgV x.1.1 (ivF x.1) (takeN x.1.1 (nth x.2.2.2 i)) := e i zo; omega))
       refine jx12 ?_; exact Rts.res1 (fn := Tryz.f17) rfl (.i rfl (by rw [hr]) <| .nil)
      ·intro h12
       replace h12 := Int.not_le.1 h12
       have hok : 0 < sgV x.1.1 (ivF x.1) (takeN x.1.1 (nth x.2.2.2 i)) := by omega
       refine jx8 ?_
       exact End.lp (i + 1) ⟨by omega, fun j hj => by by_cases e : j = i; (rw [e]; exact hok); exact hR j zo⟩ zo (Ent.mk (.i rfl zi <| zk) (zk) rfl)
     ·intro h10
      replace h10 := Int.not_lt.1 h10
      refine jx4 ?_
      exact End.cut (i) (fun j hj => hR j zo) (Ent.mk (.i rfl zi <| zk) (zk) rfl)
    ·intro i hE
     refine je ?_
     have hr : chkX x = 0 := he3.trans (if_pos hE)
     refine jx7 ?_; exact Rts.res1 (fn := Tryz.f17) rfl (.i rfl (by rw [hr]) <| .nil)

theorem ct_ropened (x : ExT) (h0 : chkF x.1 = 0) : Ct Tryz.prog 71 [kRd eX x] (kRd eRr (x.1, ())) := by
 refine Ct.mk Tryz.func71 rfl Tryz.ntmps71 rfl (fun w J => ?_); refine jx2 ?_; refine jb 1 rfl ?_; refine ja 2 ?_; refine jx3 ?_; refine Tr.frzB 1 [1] eX (x := x) ⟨rfl, trivial⟩ rfl ?_; refine jn ?_; refine jx3 ?_; refine jc (ct_rOpen x.1 h0) ?_; refine jx3 ?_; refine ja 3 ?_; refine jx11 ?_; exact Rts.resC1 (fn := Tryz.f71) rfl rfl (aggRd rfl (by rfl))

theorem ct_rStart (x : ExT) (D : Int) (M : Nat) (row : List Int) (a : Int) (hx : XOk x) (hlo : LenOk x.1.1 D M x.2.1.length (lsX x)) (hr : pmR row x.2.1.length) (ha : 0 ≤ a ∧ a < x.2.1.length) : Ct Tryz.prog 89 [kRd eX x, kRd (eL eI) row, kI a] (kRd eNum (giveN (ptV (lsX x) row (row.idxOf a)))) := by
 have h0 := hx.fld
 have hpo := pol_open h0
 have hs := (chkF_0 h0).1.2.1
 have v := hx.rows
 have hp1 : pmR x.2.1 x.2.1.length := v.p1
 have hp2 : pmR x.2.2.1 x.2.1.length := v.p2
 have hle : x.2.1.length ≤ 8 := v.le
 have htwo : 2 ≤ x.2.1.length := v.two
 have hbl : x.2.2.1.length = x.2.1.length := v.len
 have hxl := hx.len
 have hll := hlo.len
 have hrl := hr.2.2
 obtain ⟨j0, hj0, hja⟩ := perm_mem hr.2.1 hr.1 hr.2.2 (x := a) zo zo
 have hix : row.idxOf a = j0 := by rw [← hja]; exact idx_pm hr zo
 rw [hix]
 refine Ct.mk Tryz.func89 rfl Tryz.ntmps89 rfl (fun w J => ?_); refine jx2 ?_; refine jb 3 rfl ?_; refine ja 6 ?_; refine jx3 ?_; refine Tr.frzB 3 [3] eX (x := x) ⟨rfl, trivial⟩ rfl ?_; refine jn ?_; refine jx2 ?_; refine jc (ct_ropened x h0) ?_; refine ja 7 ?_; refine jx5 ?_; refine jc (ct_rWhole 0 zo) ?_; refine ja 8 ?_; refine jx9 ?_
 refine Tr.for1 (σ := Nat) [⟨1, true, _, _⟩, ⟨2, true, _, _⟩, ⟨3, true, _, _⟩, ⟨6, true, _, _⟩, ⟨7, true, _, _⟩, ⟨8, true, _, _⟩] [⟨6, _, _⟩, ⟨7, _, _⟩] (fun k => [⟨9, true, [], kI (k : Int)⟩]) (fun k => [⟨8, [], cBlk [kRd (eL (eL eI)) (giveN (ptV (lsX x) row k)).1, kRd (eL eI) (giveN (ptV (lsX x) row k)).2]⟩]) (fun k => k ≤ j0) (fun k => k = j0) (fun k => j0 - k) (0) zi (Ent.mk (.i rfl zi <| zk) (.e (by rfl) rfl <| zk) rfl) ?_ ?_
 ·intro k hR0
  refine jn ?_
  have hpk := pt_ok hpo hlo hr k zo
  have hrk := hr.1 k zo
  have hnk : takeN x.1.1 (nth x.2.2.2 (nth row k).toNat) = nth (lsX x) (nth row k).toNat := (nth_mapT zo).symm
  refine jx11 ?_; refine jq ?_ ?_
  ·intro h4
   have hkj : k < j0 := Nat.lt_of_le_of_ne hR0 (fun e => h4 (by rw [e, hja]))
   refine jx4 ?_; refine Tr.draw 10 mixed (by kernel_rfl) ?_; refine jx11 ?_; refine tO (ok_call (fun hp => ct_rAddN x.1 (giveN (ptV (lsX x) row k)) (nth x.2.2.2 (nth row k).toNat) 250 hpo hs ((give_NumOk (hlo.nbd hpk.2 zo)).mono zo) ((hx.num _ zo).mono zo) zo) (.se rfl uu rfl rfl <| .se rfl uu rfl rfl <| .a rfl uu <| .nil)) rfl rfl ?_
   rw [take_give hpk.1, hnk]
   refine jx9 ?_
   exact End.lp (k + 1) zi zo (Ent.mk (.i rfl zi <| zk) (.e (by rfl) rfl <| zk) rfl)
  ·intro h4
   replace h4 := Classical.not_not.1 h4
   have hkj : k = j0 := by have := nodup_nth hr.2.1 (i := k) (j := j0) zo zo (by rw [hja]; exact h4); exact this
   refine jx4 ?_
   exact End.cut (k) hkj (Ent.mk (.i rfl zi <| zk) (zk) rfl)
 ·rintro k hkj
  refine je ?_; refine jx8 ?_; exact Rts.resC1 (fn := Tryz.f89) rfl rfl (aggRd rfl (by rw [hkj]))

theorem ct_rTotal (x : ExT) (D : Int) (M : Nat) (hx : XOk x) (hlo : LenOk x.1.1 D M x.2.1.length (lsX x)) : Ct Tryz.prog 20 [kRd eX x] (kRd eNum (giveN (totV (lsX x) x.2.1))) := by
 have h0 := hx.fld
 have hpo := pol_open h0
 have hs := (chkF_0 h0).1.2.1
 have v := hx.rows
 have hp1 : pmR x.2.1 x.2.1.length := v.p1
 have hp2 : pmR x.2.2.1 x.2.1.length := v.p2
 have hle : x.2.1.length ≤ 8 := v.le
 have htwo : 2 ≤ x.2.1.length := v.two
 have hbl : x.2.2.1.length = x.2.1.length := v.len
 have hxl := hx.len
 have hll := hlo.len
 have htq := tot_eq hlo hp1
 rw [htq]
 refine Ct.mk Tryz.func20 rfl Tryz.ntmps20 rfl (fun w J => ?_); refine jx2 ?_; refine jb 1 rfl ?_; refine ja 2 ?_; refine jx3 ?_; refine Tr.frzB 1 [1] eX (x := x) ⟨rfl, trivial⟩ rfl ?_; refine jn ?_; refine jx2 ?_; refine jc (ct_ropened x h0) ?_; refine ja 3 ?_; refine jx5 ?_; refine jc (ct_rWhole 0 zo) ?_; refine ja 4 ?_; refine jx9 ?_
 refine Tr.for1 (σ := Nat) [⟨1, true, _, _⟩, ⟨2, true, _, _⟩, ⟨3, true, _, _⟩, ⟨4, true, _, _⟩] [⟨2, _, _⟩, ⟨3, _, _⟩] (fun k => [⟨5, true, [], kI (k : Int)⟩]) (fun k => [⟨4, [], cBlk [kRd (eL (eL eI)) (giveN (smV (lsX x) k)).1, kRd (eL eI) (giveN (smV (lsX x) k)).2]⟩]) (fun k => k ≤ x.2.1.length) (fun k => k = x.2.1.length) (fun k => x.2.1.length - k) (0) zi (Ent.mk (.i rfl zi <| zk) (.e (by rfl) rfl <| zk) rfl) ?_ ?_
 ·intro k hR0
  refine jn ?_
  have hpk := sm_ok hpo hlo k zo
  have hnk := fun (h : k < x.2.1.length) => (show takeN x.1.1 (nth x.2.2.2 k) = nth (lsX x) k from (nth_mapT zo).symm)
  refine jx10 ?_; refine jq ?_ ?_
  ·intro h4
   refine jx4 ?_; refine Tr.draw 7 mixed (by kernel_rfl) ?_; refine jx8 ?_; refine tO (ok_call (fun hp => ct_rAddN x.1 (giveN (smV (lsX x) k)) (nth x.2.2.2 k) 250 hpo hs ((give_NumOk (hlo.nbd hpk.2 zo)).mono zo) ((hx.num _ zo).mono zo) zo) (.se rfl uu rfl rfl <| .se rfl uu rfl rfl <| .a rfl uu <| .nil)) rfl rfl ?_
   rw [take_give hpk.1, hnk zo]
   refine jx9 ?_
   exact End.lp (k + 1) zi zo (Ent.mk (.i rfl zi <| zk) (.e (by rfl) rfl <| zk) rfl)
  ·intro h4
   replace h4 := Int.not_lt.1 h4
   refine jx4 ?_
   exact End.cut (k) zo (Ent.mk (.i rfl zi <| zk) (zk) rfl)
 ·rintro k hkj
  refine je ?_; refine jx8 ?_; exact Rts.resC1 (fn := Tryz.f20) rfl rfl (aggRd rfl (by rw [hkj]))

end Go.Fl

/- Contracts: shifts, letters and orbits of the reference. -/
namespace Go.Fl
open Go Go.Proofs
open TrL renaming op → tO
open RunD renaming op → rO
set_option maxRecDepth 100000

abbrev oX (x : ExT) : Ori := (x.2.1, x.2.2.1)
theorem plV_nth {ls : List NvT} {row : List Int} {a : Nat} (h : a < row.length) : nth (plV ls row) a = ptV ls row (row.idxOf (a : Int)) := nth_tab h
theorem aw_tab {o : Ori} {ls : List NvT} {n : Nat} (h1 : o.1.length = n) (h2 : o.2.length = n) : (awV o ls n).map giveN = tab n fun a => giveN (subV (ptV ls o.2 (o.2.idxOf (a : Int))) (ptV ls o.1 (o.1.idxOf (a : Int)))) := by
 unfold awV
 refine ext_nth (by rw [List.length_map, tab_len, tab_len]) fun i hi => ?_
 rw [List.length_map, tab_len] at hi
 rw [nth_mapG (by rw [tab_len]; exact hi), nth_tab hi, nth_tab hi, plV_nth zo, plV_nth zo]
noncomputable abbrev lX (x : ExT) (pv : NvT) (k : Nat) : Int := letV (sgX x) (plV (lsX x) x.2.1) x.2.1 pv k
noncomputable abbrev orX (x : ExT) (pv : NvT) (k : Nat) : NvT := orV (sgX x) (oX x) (lsX x) pv k
noncomputable abbrev ltX (x : ExT) (pv : NvT) (k : Nat) : Int := ltV (sgX x) (oX x) (lsX x) pv k
theorem ct_rShifts (x : ExT) (D : Int) (M : Nat) (hx : XOk x) (hlo : LenOk x.1.1 D M x.2.1.length (lsX x)) : Ct Tryz.prog 43 [kRd eX x] (kRd (eL eNum) ((awV (oX x) (lsX x) x.2.1.length).map giveN)) := by
 have h0 := hx.fld
 have hpo := pol_open h0
 have hs := (chkF_0 h0).1.2.1
 have v := hx.rows
 have hp1 : pmR x.2.1 x.2.1.length := v.p1
 have hp2 : pmR x.2.2.1 x.2.1.length := v.p2
 have hle : x.2.1.length ≤ 8 := v.le
 have htwo : 2 ≤ x.2.1.length := v.two
 have hbl : x.2.2.1.length = x.2.1.length := v.len
 have hxl := hx.len
 have hll := hlo.len
 rw [aw_tab (o := oX x) rfl hbl]
 refine Ct.mk Tryz.func43 rfl Tryz.ntmps43 rfl (fun w J => ?_); refine jx2 ?_; refine jb 1 rfl ?_; refine jx4 ?_; refine Tr.frzB 1 [1] eX (x := x) ⟨rfl, trivial⟩ rfl ?_; refine jn ?_; refine jx2 ?_; refine jc (ct_ropened x h0) ?_; refine ja 3 ?_; refine jx14 ?_; refine Tr.grow (s := 4) rfl rfl 44 rfl 30 eNum rfl ?_
 refine Tr.for1 (σ := Nat) [⟨1, true, _, _⟩, ⟨3, true, _, _⟩] [⟨3, _, _⟩] (fun a => [⟨4, true, [44], kOsl 44 a⟩, ⟨5, true, [], kI (a : Int)⟩]) (fun a => [⟨44, [], cArr true 30 eNum (tab a fun a => giveN (subV (ptV (lsX x) x.2.2.1 (x.2.2.1.idxOf (a : Int))) (ptV (lsX x) x.2.1 (x.2.1.idxOf (a : Int))))) a⟩]) (fun a => a ≤ x.2.1.length) (fun a => a = x.2.1.length) (fun a => x.2.1.length - a) (0) zi (Ent.mk (.o rfl zi rfl <| .i rfl zi <| zk) (.a (by rfl) zi <| zk) rfl) ?_ ?_
 ·intro a hR0
  refine jn ?_; refine jx10 ?_; refine jq ?_ ?_
  ·intro h4
   refine jx4 ?_; refine Tr.draw 14 mixed (by kernel_rfl) ?_
   have hq2 := plV_ok hpo hlo hp2 (a := a) zo
   have hq1 := plV_ok hpo hlo hp1 (a := a) zo
   rw [plV_nth zo] at hq1 hq2
   refine jx6 ?_; refine jd (ct_rStart x D M x.2.2.1 (a : Int) hx hlo hp2 zo) ?_; refine jx4 ?_; refine jd (ct_rStart x D M x.2.1 (a : Int) hx hlo hp1 zo) ?_; refine jd (ct_rSubN x.1 (giveN (ptV (lsX x) x.2.2.1 (x.2.2.1.idxOf (a : Int)))) (giveN (ptV (lsX x) x.2.1 (x.2.1.idxOf (a : Int)))) 250 hpo hs ((give_NumOk (hlo.nbd hq2.2 zo)).mono zo) ((give_NumOk (hlo.nbd hq1.2 zo)).mono zo) zo) ?_
   rw [take_give hq2.1, take_give hq1.1]
   refine RunD.new (ok_bsl eNum 28 (fun hp => .cons rfl <| .nil) rfl rfl rfl rfl) rfl rfl rfl rfl ?_; refine jx2 ?_; refine jl ?_; refine jx9 ?_
   exact End.lp (a + 1) zi zo (Ent.mk (.o rfl zi rfl <| .i rfl zi <| zk) (.a tab_succ.symm zi <| zk) rfl)
  ·intro h4
   replace h4 := Int.not_lt.1 h4
   refine jx4 ?_
   exact End.cut (a) zo (Ent.mk (.o rfl zi rfl <| .i rfl zi <| zk) (zk) rfl)
 ·rintro a hkn
  refine je ?_
  rw [hkn]
  refine jx7 ?_; refine Tr.frz 44 [2] ⟨rfl, trivial⟩ (by simp only [lenMax]; omega) rfl ?_; refine jx1 ?_
  exact Rts.res1 (fn := Tryz.f43) rfl (.r rfl zi <| .nil)

end Go.Fl

/- Contracts: open with its errors; orbits. -/
namespace Go.Fl
open Go Go.Proofs
open TrL renaming op → tO
open RunD renaming op → rO
set_option maxRecDepth 100000

theorem ct_rxCheck (x : ExT) (hsm : SmX x) : Ct Tryz.prog 17 [kRd eX x] (kI (chkX x)) := by
 by_cases h0 : chkF x.1 = 0
 ·exact ct_rxCheckG x h0 hsm
 ·exact ct_rxCheckF x h0
noncomputable abbrev macX (x : ExT) : MacT := mac (openR x.1) (oX x) (lsX x)
theorem ct_xopX (x : ExT) (D : Int) (M : Nat) (hx : XOk x) (hlo : LenOk x.1.1 D M x.2.1.length (lsX x)) : Ct Tryz.prog 66 [kRd eX x] (kTup [kPtr eMac (macX x), kI 0]) :=
 ct_xopen x (openR x.1) (sgX x) D M (ct_fOpenG _ hx.fld) (pol_open hx.fld) (sgnC_open hx.fld) hx.rows hx.len (fun a h => (hx.num a h).mono zo) hlo hx.pos
theorem ct_sgX (f : FdT) (p : NumT) (h0 : chkF f = 0) (hp : NumOk 250 p) : Ct Tryz.prog 82 [kPtr eReal (openR f), kRd eNum p] (kI (sgV f.1 (ivF f) (takeN f.1 p))) := (sgnC_open h0).sign p hp
theorem ct_nmX (f : FdT) (p : NumT) (h0 : chkF f = 0) (hp : NumOk 250 p) : Ct Tryz.prog 69 [kPtr eReal (openR f), kRd eNum p] (kRd eNum (giveN (takeN f.1 p))) := ct_fNormalN (openR f) p 250 (pol_open h0) hp zo
theorem ct_xopenE (x : ExT) (h0 : chkF x.1 ≠ 0) : Ct Tryz.prog 66 [kRd eX x] (kTup [kDet (.pointer none), kI (chkX x)]) := by
 refine Ct.mk Tryz.func66 rfl Tryz.ntmps66 rfl (fun w J => ?_); refine jx2 ?_; refine jb 1 rfl ?_; refine jx8 ?_; refine jc (ct_fOpenE x.1 h0) ?_; refine jx14 ?_; refine Tr.cnd rfl ?_ ?_
 ·intro h2
  refine jx9 ?_; exact Rts.res (fn := Tryz.f66) (ts := [2, 3]) rfl rfl (.k rfl <| .i rfl (by unfold chkX; rw [if_pos h0]) <| .nil)
 ·intro h2
  exact absurd (of_decide_eq_false h2) (fun e => e h0)

set_option maxHeartbeats 1000000 in
theorem ct_xopenR (x : ExT) (h0 : chkF x.1 = 0) (hsm : SmX x) (hne : chkX x ≠ 0) : Ct Tryz.prog 66 [kRd eX x] (kTup [kDet (.pointer none), kI (chkX x)]) := by
 have he1 := (if_neg (fun e => e h0) : chkX x = _)
 have hpo := pol_open h0
 have ht1 := hsm.top
 have ht2 := hsm.bot
 have ht3 := hsm.len
 obtain ⟨ls, hls⟩ : ∃ ls, ls = lsX x := ⟨_, rfl⟩
 have hll : ls.length = x.2.2.2.length := by rw [hls, List.length_map]
 have hnk : ∀ k, k < x.2.2.2.length → nth ls k = takeN x.1.1 (nth x.2.2.2 k) := fun k hk => by rw [hls]; exact nth_mapT hk
 refine Ct.mk Tryz.func66 rfl Tryz.ntmps66 rfl (fun w J => ?_); refine jx2 ?_; refine jb 1 rfl ?_; refine jx8 ?_; refine jc (ct_fOpenG x.1 h0) ?_; refine jx14 ?_; refine Tr.cnd rfl ?_ ?_
 ·intro h2
  exact absurd h2 (by decide)
 ·intro h2
  refine jx6 ?_; refine tO (ok_call (fun hp => ct_rowsOf _) (.s rfl uu rfl <| .nil)) rfl rfl ?_; refine tO (ok_call (fun hp => ct_eCheckRows _) (.a rfl uu <| .nil)) rfl rfl ?_; refine jx9 ?_; refine jq ?_ ?_
  ·intro h5
   have hr : chkX x = chkR (x.2.1, x.2.2.1) := he1.trans (if_pos h5)
   refine jx9 ?_
   exact Rts.res (fn := Tryz.f66) (ts := [2, 3]) rfl rfl (.k rfl <| .i rfl zi <| .nil)
  ·intro h5
   replace h5 := Classical.not_not.1 h5
   have he2 := he1.trans (if_neg (fun e => e h5))
   refine jx14 ?_; refine jq ?_ ?_
   ·intro h7
    have hr : chkX x = 10 := he2.trans (if_pos zo)
    refine jx8 ?_; exact Rts.res (fn := Tryz.f66) (ts := [2, 3]) rfl rfl (.k rfl <| .i rfl (by rw [hr]) <| .nil)
   ·intro h7
    replace h7 := Classical.not_not.1 h7
    have he3 := he2.trans (if_neg zo)
    refine jx6 ?_; refine tO (ok_call (fun hp => ct_rowsOf _) (.s rfl uu rfl <| .nil)) rfl rfl ?_; refine tO (ok_call (fun hp => ct_copied _ (by show x.2.1.length ≤ 1000; omega) (by show x.2.2.1.length ≤ 1000; omega)) (.a rfl uu <| .nil)) rfl rfl ?_; refine tO (ok_build (fun hp => .cons rfl rfl rfl <| .cons rfl rfl rfl <| .nil)) rfl rfl ?_; refine jb 38 rfl ?_; refine jx12 ?_; refine Tr.growC 38 3 139 rfl (ks' := [_, _, _, kOsl 139 0, _, _, _, _, _]) rfl rfl 30 eNum rfl (.cons inferInstance rfl <| .cons inferInstance rfl <| .cons inferInstance rfl <| .cons inferInstance rfl <| .cons inferInstance rfl <| .cons inferInstance rfl <| .cons inferInstance rfl <| .cons inferInstance rfl <| .cons inferInstance rfl <| inferInstance) ?_
    refine Tr.for1 (σ := Nat) [⟨1, true, _, _⟩, ⟨4, true, _, _⟩, ⟨7, true, _, _⟩, ⟨40, true, _, _⟩, ⟨41, true, _, _⟩] [⟨1, _, _⟩] (fun k => [⟨42, true, [], kI (k : Int)⟩]) (fun k => [⟨38, [139], cBlk [kPtr eReal (openR x.1), kRd (eL eI) x.2.1, kRd (eL eI) x.2.2.1, kOsl 139 k, kDet (.slice none 0 0), kDet (.slice none 0 0), kDet (.slice none 0 0), kDet (.slice none 0 0), kDet (.slice none 0 0)]⟩, ⟨139, [], cArr true 30 eNum ((ls.take k).map giveN) k⟩]) (fun k => k ≤ x.2.2.2.length ∧ ∀ j, j < k → 0 < sgV x.1.1 (ivF x.1) (takeN x.1.1 (nth x.2.2.2 j))) (fun k => False) (fun k => x.2.2.2.length - k) (0) ⟨by omega, fun j h => absurd h (Nat.not_lt_zero _)⟩ (Ent.mk (.i rfl zi <| zk) (.e (by rfl) rfl <| .a (by rfl) zi <| zk) rfl) ?_ ?_
    ·rintro k ⟨hk, hR⟩
     refine jn ?_; refine jx6 ?_; refine jq ?_ ?_
     ·intro h11
      refine jx8 ?_; refine ja 9 ?_; refine jx8 ?_; refine jc (ct_sgX x.1 (nth x.2.2.2 k) h0 ((hsm.num k).mono zo)) ?_; refine jx3 ?_; refine jq ?_ ?_
      ·intro h13
       have hr : chkX x = 12 := he3.trans (if_neg (fun e => by have e2 : 0 < sgV x.1.1 (ivF x.1) (takeN x.1.1 (nth x.2.2.2 k)) := e k zo; omega))
       refine jx14 ?_; exact Rts.res (fn := Tryz.f66) (ts := [2, 3]) rfl rfl (.k rfl <| .i rfl (by rw [hr]) <| .nil)
      ·intro h13
       replace h13 := Int.not_le.1 h13
       have hok : 0 < sgV x.1.1 (ivF x.1) (takeN x.1.1 (nth x.2.2.2 k)) := by omega
       refine jx2 ?_; refine Tr.drawM (m := 9) mixed (by kernel_rfl) rfl (by kernel_rfl) (by kernel_rfl) (by kernel_rfl) ?_; refine jx2 ?_; refine rO (ok_nilO rfl uu) rfl rfl ?_; refine jx4 ?_; refine jd (ct_nmX x.1 (nth x.2.2.2 k) h0 ((hsm.num k).mono zo)) ?_; refine RunD.new (ok_bsl eNum 58 (fun hp => .cons rfl <| .nil) rfl rfl rfl rfl) rfl rfl rfl rfl ?_; refine jx1 ?_; refine TrL.wkC 38 (.k <| .k <| .k <| .any <| .k <| .k <| .k <| .k <| .k <| .nil) rfl ?_; refine jx1 ?_; refine jl ?_; refine tO (ok_nilO rfl uu) rfl rfl ?_; refine jx2 ?_; refine TrL.finN ?_; refine jx6 ?_
       exact End.lp (k + 1) ⟨by omega, fun j hj => by by_cases e : j = k; (rw [e]; exact hok); exact hR j zo⟩ zo (Ent.mk (.i rfl zi <| zk) (.e (by rfl) rfl <| .a (by rw [take_succ_nth zo, List.map_append, hnk k zo]; rfl) zi <| zk) rfl)
     ·intro h11
      replace h11 := Int.not_lt.1 h11
      refine jx4 ?_
      exact End.cut (k) (hne (he3.trans (if_pos fun j hj => hR j zo))) (Ent.mk (.i rfl zi <| zk) (zk) rfl)
    ·intro k hE0
     exact hE0.elim

end Go.Fl

/- Contracts: errors of Apply and Orbit. -/
namespace Go.Fl
open Go Go.Proofs
open TrL renaming op → tO
open RunD renaming op → rO
set_option maxRecDepth 100000

theorem ct_xopenB (x : ExT) (hsm : SmX x) (hne : chkX x ≠ 0) : Ct Tryz.prog 66 [kRd eX x] (kTup [kDet (.pointer none), kI (chkX x)]) := by
 by_cases h0 : chkF x.1 = 0
 ·exact ct_xopenR x h0 hsm hne
 ·exact ct_xopenE x h0
end Go.Fl

/- The law of orbits. -/
namespace Go.Fl
open Go Go.Proofs
open TrL renaming op → tO
open RunD renaming op → rO
set_option maxRecDepth 100000

theorem XOk.dm {x : ExT} (hx : XOk x) {ps : List NumT} (hp : ∀ p ∈ ps, NumOk 2 p) (hl : ps.length ≤ 2) : ∃ (D : Int) (M : Nat), LenOk x.1.1 D M x.2.1.length (lsX x) ∧ ∀ p ∈ ps, HB D M (takeN x.1.1 p) := by
 have hpo := pol_open hx.fld
 obtain ⟨D, M, h1, h2⟩ := take_LenOk (more := ps.map (takeN x.1.1)) hpo hx.len hx.rows.le hx.num (by rw [List.length_map]; exact hl) fun v hv => by
  obtain ⟨p, hpm, rfl⟩ := List.mem_map.1 hv
  exact ⟨take_RedN hpo, take_NBd hpo (hp p hpm)⟩
 exact ⟨D, M, h1, fun p hpm => h2 _ (List.mem_map.2 ⟨p, hpm, rfl⟩)⟩
noncomputable def inB (x : ExT) (p : NumT) : Bool := decide (0 ≤ sgX x (takeN x.1.1 p)) && decide (sgX x (subV (takeN x.1.1 p) (totV (lsX x) x.2.1)) < 0)
noncomputable def obE (x : ExT) (p : NumT) (n : Int) : Int := if chkX x ≠ 0 then chkX x else if 0 ≤ n ∧ n ≤ 2000 ∧ inB x p = true then 0 else 2
noncomputable def obP (x : ExT) (p : NumT) (n : Int) : List NumT := if obE x p n ≠ 0 then [] else tab (n.toNat + 1) fun k => giveN (orX x (takeN x.1.1 p) k)
noncomputable def obC (x : ExT) (p : NumT) (n : Int) : List Int := if obE x p n ≠ 0 then [] else tab n.toNat (ltX x (takeN x.1.1 p))
noncomputable def apP (x : ExT) (p : NumT) : NumT := if obE x p 1 ≠ 0 then ([], []) else giveN (orX x (takeN x.1.1 p) 1)
noncomputable def apC (x : ExT) (p : NumT) : Int := if obE x p 1 ≠ 0 then 0 else ltX x (takeN x.1.1 p) 0
theorem in_list {l : List Int} (h : ListP (okI .i64) l) : InI l := fun i hi => okI64 (h.2 i hi)
theorem in_num {c : List (List Int)} {d : List Int} (h : ListP (ListP (okI .i64)) c) (h2 : ListP (okI .i64) d) : InN (c, d) := ⟨fun i => by
 by_cases hi : i < c.length
 ·exact in_list (h.2 i hi)
 ·show InI (nth c i); rw [nth_out zo]; exact inI_nil, in_list h2⟩
theorem in_nums {l : List NumT} (h : ListP InN l) (a : Nat) : InN (nth l a) := by
 by_cases hi : a < l.length
 ·exact h.2 a hi
 ·rw [nth_out zo]; exact ⟨fun i => by show InI (nth [] i); rw [nth_nil]; exact inI_nil, inI_nil⟩
end Go.Fl

/- Places of letters; lists that are filled letter by letter; renumbered rows. No program in sight. -/
namespace Go.Fl
open Go
theorem idx_nat {row : List Int} {n a : Nat} (h : pmR row n) (ha : a < n) : ∃ j, j < n ∧ nth row j = (a : Int) ∧ row.idxOf (a : Int) = j := by
 have hl := h.2.2
 obtain ⟨j, hj, hja⟩ := perm_mem h.2.1 h.1 h.2.2 (x := (a : Int)) zo zo
 exact ⟨j, hj, hja, by rw [← hja]; exact idx_pm h zo⟩
def flP {α : Type} (F : Nat → α) (z : α) (row : List Int) (k : Nat) : List α := tab row.length fun a => if row.idxOf (a : Int) < k then F (row.idxOf (a : Int)) else z
theorem flP_zero {α : Type} {F : Nat → α} {z : α} {row : List Int} : flP F z row 0 = List.replicate row.length z := by
 unfold flP
 rw [tab_congr (G := fun _ => z) fun a _ => if_neg (Nat.not_lt_zero _)]
 simp [tab, List.map_const']
theorem flP_succ {α : Type} {F : Nat → α} {z : α} {row : List Int} {n k : Nat} (h : pmR row n) (hk : k < row.length) : (flP F z row k).set (nth row k).toNat (F k) = flP F z row (k + 1) := by
 have hr := h.1 k hk
 have hl := h.2.2
 unfold flP
 rw [tab_set]
 refine tab_congr fun a ha => ?_
 obtain ⟨j, hj, hja, hi⟩ := idx_nat h (a := a) zo
 by_cases e : a = (nth row k).toNat
 ·have hjk : j = k := nodup_nth h.2.1 zo hk zo
  rw [if_pos e, hi, hjk, if_pos zo]
 ·have hne : j ≠ k := fun x => e (by rw [← x, hja]; omega)
  rw [if_neg e, hi]
  by_cases h1 : j < k
  ·rw [if_pos h1, if_pos zo]
  ·rw [if_neg h1, if_neg zo]
theorem flP_end {α : Type} {F : Nat → α} {z : α} {row : List Int} {n : Nat} (h : pmR row n) : flP F z row row.length = tab row.length fun a => F (row.idxOf (a : Int)) := by
 have hl := h.2.2
 refine tab_congr fun a ha => ?_
 obtain ⟨j, hj, _, hi⟩ := idx_nat h (a := a) zo
 rw [hi, if_pos zo]
def nmV (row : List Int) : List Int := tab row.length fun a => (row.idxOf (a : Int) : Int)
theorem nmV_len {row : List Int} : (nmV row).length = row.length := tab_len
theorem nmV_at {row : List Int} {n a : Nat} (h : pmR row n) (ha : a < n) : nth (nmV row) a = (row.idxOf (a : Int) : Int) := by
 have hl := h.2.2
 exact nth_tab zo
theorem nmV_pm {row : List Int} {n : Nat} (h : pmR row n) : pmR (nmV row) n := by
 have hl := h.2.2
 refine ⟨fun i hi => ?_, nodup_of_nth fun i j hi hj e => ?_, by rw [nmV_len, hl]⟩
 ·rw [nmV_len, hl] at hi
  obtain ⟨j, hj, _, hx⟩ := idx_nat h hi
  rw [nmV_at h hi, hx]; omega
 ·rw [nmV_len, hl] at hi hj
  rw [nmV_at h hi, nmV_at h hj] at e
  obtain ⟨a, _, ha, hx⟩ := idx_nat h hi
  obtain ⟨b, _, hb, hy⟩ := idx_nat h hj
  rw [hx, hy] at e
  have : a = b := by omega
  rw [this, hb] at ha
  omega
theorem nmV_idx {row : List Int} {n i : Nat} (h : pmR row n) (hi : i < n) : (nmV row).idxOf (i : Int) = (nth row i).toNat := by
 have hl := h.2.2
 have hr := h.1 i zo
 have e : nth (nmV row) (nth row i).toNat = (i : Int) := by
  rw [nmV_at h zo, show (((nth row i).toNat : Nat) : Int) = nth row i by omega, idx_pm h zo]
 rw [← e]
 exact idx_pm (nmV_pm h) (by rw [nmV_len]; omega)
def renB (o : List Int × List Int) : List Int := tab o.1.length fun i => (o.1.idxOf (nth o.2 i) : Int)
def renT (o : List Int × List Int) : List Int := tab o.1.length fun i => (i : Int)
def renL (o : List Int × List Int) (ls : List NvT) : List NvT := tab o.1.length fun i => nth ls (nth o.1 i).toNat
theorem renL_fl {o : List Int × List Int} {ls : List NvT} {n : Nat} (h : pmR o.1 n) : flP (fun a => giveN (nth ls a)) ([], []) (nmV o.1) (nmV o.1).length = (renL o ls).map giveN := by
 have hl := h.2.2
 rw [flP_end (nmV_pm h), nmV_len]
 unfold renL
 simp only [tab, List.map_map]
 refine List.map_congr_left fun i hi => ?_
 have hi : i < o.1.length := List.mem_range.1 hi
 show giveN (nth ls ((nmV o.1).idxOf (i : Int))) = giveN (nth ls (nth o.1 i).toNat)
 rw [nmV_idx h zo]
end Go.Fl

/- Contracts: the reference: renumbered rows, normal and inverse exchanges; comparisons of exchanges. -/
namespace Go.Fl
open Go Go.Proofs
open TrL renaming op → tO
open RunD renaming op → rO
set_option maxRecDepth 100000

abbrev exZ : ExT := (([], 0, 0, 0), [], [], [])
def fdB (a b : FdT) : Bool := decide (a.1 = b.1) && decide (a.2.1 = b.2.1) && decide (a.2.2.1 = b.2.2.1) && decide (a.2.2.2 = b.2.2.2)
def exB (a b : ExT) : Bool := fdB a.1 b.1 && decide (a.2.1 = b.2.1) && decide (a.2.2.1 = b.2.2.1) && decide (a.2.2.2 = b.2.2.2)
theorem exB_refl {a : ExT} : exB a a = true := by simp [exB, fdB]
instance : NB 141 142 := ⟨rfl⟩
instance : NB 142 141 := ⟨rfl⟩
noncomputable abbrev nmX (x : ExT) : ExT := (x.1, renT (oX x), renB (oX x), (renL (oX x) (lsX x)).map giveN)
noncomputable abbrev ivX (x : ExT) : ExT := (x.1, x.2.2.1, x.2.1, (lsX x).map giveN)
theorem ct_bSameField (a b : FdT) : Ct Tryz.prog 91 [kRd eFd a, kRd eFd b] (kB (fdB a b)) := by
 refine Ct.mk Tryz.func91 rfl Tryz.ntmps91 rfl (fun w J => ?_); refine jx2 ?_; refine jb 2 rfl ?_; refine jb 3 rfl ?_; refine jx4 ?_; refine Tr.frzB 2 [2] eFd (x := a) ⟨rfl, trivial⟩ rfl ?_; refine Tr.frzB 3 [3] eFd (x := b) ⟨rfl, trivial⟩ rfl ?_; refine jn ?_; refine jx5 ?_; refine jc (ct_Ints a.1 b.1) ?_; refine jx25 ?_; exact Rts.res1 (fn := Tryz.f91) rfl (.b rfl (by rfl) <| .nil)

theorem ct_bSameExchange (a b : ExT) : Ct Tryz.prog 41 [kRd eX a, kRd eX b] (kB (exB a b)) := by
 refine Ct.mk Tryz.func41 rfl Tryz.ntmps41 rfl (fun w J => ?_); refine jx2 ?_; refine jb 2 rfl ?_; refine jb 3 rfl ?_; refine jx4 ?_; refine Tr.frzB 2 [2] eX (x := a) ⟨rfl, trivial⟩ rfl ?_; refine Tr.frzB 3 [3] eX (x := b) ⟨rfl, trivial⟩ rfl ?_; refine jn ?_; refine jx5 ?_; refine jc (ct_bSameField a.1 b.1) ?_; refine jx5 ?_; refine TrL.gd rfl rfl rfl (ok_call (fun hp => ct_Ints a.2.1 b.2.1) (.a rfl id <| .a rfl id <| .nil)) rfl rfl ?_; refine jx6 ?_; refine TrL.gd rfl rfl rfl (ok_call (fun hp => ct_Ints a.2.2.1 b.2.2.1) (.a rfl id <| .a rfl id <| .nil)) rfl rfl ?_; refine jx6 ?_; refine TrL.gd rfl rfl rfl (ok_call (fun hp => ct_bSameNums a.2.2.2 b.2.2.2) (.a rfl id <| .a rfl id <| .nil)) rfl rfl ?_
 refine jx5 ?_; exact Rts.res1 (fn := Tryz.f41) rfl (.b rfl (by rfl) <| .nil)

theorem ct_xnone (x : ExT) : Ct Tryz.prog 40 [kRd eX x] (kB (exB x exZ)) := by
 refine Ct.mk Tryz.func40 rfl Tryz.ntmps40 rfl (fun w J => ?_); refine jx2 ?_; refine jb 1 rfl ?_; refine jx4 ?_; refine Tr.frzB 1 [1] eX (x := x) ⟨rfl, trivial⟩ rfl ?_; refine jn ?_; refine jx2 ?_; refine tO (ok_build (fun hp => .nil)) rfl rfl ?_; refine jc (ct_bSameExchange x exZ) ?_; refine jx4 ?_
 exact Rts.res1 (fn := Tryz.f40) rfl (.b rfl zi <| .nil)

theorem ct_rPlace (row : List Int) (n : Nat) (a : Int) (h : pmR row n) (ha : 0 ≤ a ∧ a < n) (hn : n ≤ 1000) : Ct Tryz.prog 146 [kRd (eL eI) row, kI a] (kI (row.idxOf a : Int)) := by
 obtain ⟨j0, hj0, hja, hix⟩ := idx_nat h (a := a.toNat) zo
 rw [show ((a.toNat : Nat) : Int) = a by omega] at hja hix
 have hl := h.2.2
 rw [hix]
 refine Ct.mk Tryz.func146 rfl Tryz.ntmps146 rfl (fun w J => ?_); refine jx10 ?_
 refine Tr.for (σ := Nat) [⟨0, true, _, _⟩, ⟨1, true, _, _⟩] [] (fun k => [⟨5, true, [], kI (k : Int)⟩]) (fun k => []) (fun k => k ≤ j0) (fun k => k = j0) (fun k => j0 - k) (0) zi (Ent.mk (.i rfl zi <| zk) (.nil) rfl) ?_ ?_
 ·intro k hR0
  refine jn ?_; refine jx11 ?_; refine jq ?_ ?_
  ·intro h2
   have hkj : k < j0 := Nat.lt_of_le_of_ne hR0 (fun e => h2 (by rw [e, hja]))
   refine jx9 ?_
   exact End.lp (k + 1) zi zo (Ent.mk (.i rfl zi <| zk) (.nil) rfl)
  ·intro h2
   replace h2 := Classical.not_not.1 h2
   have hkj : k = j0 := nodup_nth h.2.1 (i := k) (j := j0) zo zo (by rw [hja]; exact h2)
   refine jx4 ?_
   exact End.cut (k) hkj (Ent.mk (.i rfl zi <| zk) (.nil) rfl)
 ·rintro k hkj
  refine jn ?_
  rw [hkj]
  refine jx7 ?_
  exact Rts.res1 (fn := Tryz.f146) rfl (.i rfl zi <| .nil)

theorem ct_rRenumbered (r : Ori) (v : RowsOk r) : Ct Tryz.prog 92 [kRd eO r] (kRd eO (renT r, renB r)) := by
 have hp1 := v.p1
 have hp2 := v.p2
 have hle := v.le
 have hbl := v.len
 refine Ct.mk Tryz.func92 rfl Tryz.ntmps92 rfl (fun w J => ?_); refine jx2 ?_; refine jb 1 rfl ?_; refine ja 2 ?_; refine jx3 ?_; refine Tr.frzB 1 [1] eO (x := r) ⟨rfl, trivial⟩ rfl ?_; refine jn ?_; refine jx1 ?_; refine ja 3 ?_; refine jx8 ?_; refine Tr.growC 3 0 141 rfl (ks' := [kOsl 141 0, _]) rfl rfl 3 eI rfl (.cons inferInstance rfl <| .cons inferInstance rfl <| inferInstance) ?_; refine Tr.growC 3 1 142 rfl (ks' := [_, kOsl 142 0]) rfl rfl 3 eI rfl (.cons inferInstance rfl <| .cons inferInstance rfl <| inferInstance) ?_
 refine Tr.for1 (σ := Nat) [⟨1, true, _, _⟩, ⟨2, true, _, _⟩, ⟨3, true, _, _⟩] [⟨2, _, _⟩] (fun i => [⟨4, true, [], kI (i : Int)⟩]) (fun i => [⟨3, [141, 142], cBlk [kOsl 141 i, kOsl 142 i]⟩, ⟨141, [], cArr true 3 eI (tab i fun i => (i : Int)) i⟩, ⟨142, [], cArr true 3 eI (tab i fun i => (r.1.idxOf (nth r.2 i) : Int)) i⟩]) (fun i => i ≤ r.1.length) (fun i => i = r.1.length) (fun i => r.1.length - i) (0) zi (Ent.mk (.i rfl zi <| zk) (.e (by rfl) rfl <| .a (by rfl) zi <| .a (by rfl) zi <| zk) rfl) ?_ ?_
 ·intro i hR0
  refine jn ?_; refine jx10 ?_; refine jq ?_ ?_
  ·intro h3
   refine jx9 ?_; refine TrL.new (ok_bsl eI 15 (fun hp => .cons rfl <| .nil) rfl rfl rfl rfl) rfl rfl rfl rfl ?_; refine TrL.wkC 3 (.any <| .k <| .nil) rfl ?_; refine jx1 ?_; refine jl ?_; refine jx4 ?_; refine Tr.draw 11 mixed (by kernel_rfl) ?_; refine jx9 ?_; refine jd (ct_rPlace r.1 r.1.length (nth r.2 i) hp1 (hp2.1 i zo) zo) ?_; refine RunD.new (ok_bsl eI 28 (fun hp => .cons rfl <| .nil) rfl rfl rfl rfl) rfl rfl rfl rfl ?_; refine jx1 ?_; refine TrL.wkC 3 (.k <| .any <| .nil) rfl ?_; refine jx1 ?_; refine jl ?_; refine jx10 ?_
   exact End.lp (i + 1) zi zo (Ent.mk (.i rfl zi <| zk) (.e (by rfl) rfl <| .a tab_succ.symm zi <| .a tab_succ.symm zi <| zk) rfl)
  ·intro h3
   replace h3 := Int.not_lt.1 h3
   refine jx4 ?_
   exact End.cut (i) zo (Ent.mk (.i rfl zi <| zk) (zk) rfl)
 ·rintro i hkn
  refine je ?_
  rw [hkn]
  refine jx2 ?_; refine Tr.frzC 141 3 (by simp only [lenMax]; omega) rfl rfl ?_; refine Tr.frzC 142 3 (by simp only [lenMax]; omega) rfl rfl ?_; refine jx6 ?_; exact Rts.resC1 (fn := Tryz.f92) rfl rfl (aggRd rfl (by rfl))

theorem ct_rxNormal (x : ExT) (hx : XOk x) : Ct Tryz.prog 42 [kRd eX x] (kRd eX (nmX x)) := by
 have h0 := hx.fld
 have hpo := pol_open h0
 have hs := (chkF_0 h0).1.2.1
 have v := hx.rows
 have hp1 : pmR x.2.1 x.2.1.length := v.p1
 have hp2 : pmR x.2.2.1 x.2.1.length := v.p2
 have hle : x.2.1.length ≤ 8 := v.le
 have htwo : 2 ≤ x.2.1.length := v.two
 have hbl : x.2.2.1.length = x.2.1.length := v.len
 have hxl := hx.len
 refine Ct.mk Tryz.func42 rfl Tryz.ntmps42 rfl (fun w J => ?_); refine jx2 ?_; refine jb 1 rfl ?_; refine ja 2 ?_; refine jx3 ?_; refine Tr.frzB 1 [1] eX (x := x) ⟨rfl, trivial⟩ rfl ?_; refine jn ?_; refine jx2 ?_; refine jc (ct_ropened x h0) ?_; refine ja 3 ?_; refine jx6 ?_; refine jc (ct_rRowsOf x) ?_; refine jc (ct_rRenumbered (oX x) v) ?_; refine ja 4 ?_; refine jx11 ?_; refine tO (ok_build (fun hp => .cons rfl rfl rfl <| .cons rfl rfl rfl <| .cons rfl rfl rfl <| .nil)) rfl rfl ?_; refine ja 5 ?_; refine jx9 ?_; refine Tr.growC 5 6 155 rfl (ks' := [_, _, _, _, _, _, kOsl 155 0]) rfl rfl 30 eNum rfl (.cons inferInstance rfl <| .cons inferInstance rfl <| .cons inferInstance rfl <| .cons inferInstance rfl <| .cons inferInstance rfl <| .cons inferInstance rfl <| .cons inferInstance rfl <| inferInstance) ?_
 refine Tr.for1 (σ := Nat) [⟨1, true, _, _⟩, ⟨2, true, _, _⟩, ⟨3, true, _, _⟩, ⟨5, true, _, _⟩] [⟨2, _, _⟩, ⟨3, _, _⟩] (fun i => [⟨6, true, [], kI (i : Int)⟩]) (fun i => [⟨5, [155], cBlk [kRd (eL eI) x.1.1, kI x.1.2.1, kI x.1.2.2.1, kI x.1.2.2.2, kRd (eL eI) (renT (oX x)), kRd (eL eI) (renB (oX x)), kOsl 155 i]⟩, ⟨155, [], cArr true 30 eNum (tab i fun i => giveN (nth (lsX x) (nth x.2.1 i).toNat)) i⟩]) (fun i => i ≤ x.2.1.length) (fun i => i = x.2.1.length) (fun i => x.2.1.length - i) (0) zi (Ent.mk (.i rfl zi <| zk) (.e (by rfl) rfl <| .a (by rfl) zi <| zk) rfl) ?_ ?_
 ·intro i hR0
  refine jn ?_; refine jx10 ?_; refine jq ?_ ?_
  ·intro h5
   refine jx4 ?_; refine Tr.draw 14 mixed (by kernel_rfl) ?_
   have hri := hp1.1 i zo
   have hnk : takeN x.1.1 (nth x.2.2.2 (nth x.2.1 i).toNat) = nth (lsX x) (nth x.2.1 i).toNat := (nth_mapT zo).symm
   refine jx12 ?_; refine rO (ok_call (fun hp => ct_rNormalN x.1 (nth x.2.2.2 (nth x.2.1 i).toNat) 2 hpo hs (hx.num _ zo) zo) (.s rfl uu rfl <| .a rfl uu <| .nil)) rfl rfl ?_
   rw [hnk]
   refine RunD.new (ok_bsl eNum 39 (fun hp => .cons rfl <| .nil) rfl rfl rfl rfl) rfl rfl rfl rfl ?_; refine jx1 ?_; refine TrL.wkC 5 (.k <| .k <| .k <| .k <| .k <| .k <| .any <| .nil) rfl ?_; refine jx1 ?_; refine jl ?_; refine jx10 ?_
   exact End.lp (i + 1) zi zo (Ent.mk (.i rfl zi <| zk) (.e (by rfl) rfl <| .a tab_succ.symm zi <| zk) rfl)
  ·intro h5
   replace h5 := Int.not_lt.1 h5
   refine jx4 ?_
   exact End.cut (i) zo (Ent.mk (.i rfl zi <| zk) (zk) rfl)
 ·rintro i hkn
  refine je ?_
  rw [hkn]
  refine jx2 ?_; refine Tr.frzC 155 5 (by simp only [lenMax]; omega) rfl rfl ?_; refine jx6 ?_; exact Rts.resC1 (fn := Tryz.f42) rfl rfl (aggRd rfl (by show _ = ((x.1.1, x.1.2.1, x.1.2.2.1, x.1.2.2.2), renT (oX x), renB (oX x), (renL (oX x) (lsX x)).map giveN); simp only [renL, tab, List.map_map]; rfl))

theorem ct_rxInverse (x : ExT) (hx : XOk x) : Ct Tryz.prog 44 [kRd eX x] (kRd eX (ivX x)) := by
 have h0 := hx.fld
 have hpo := pol_open h0
 have hs := (chkF_0 h0).1.2.1
 have v := hx.rows
 have hp1 : pmR x.2.1 x.2.1.length := v.p1
 have hp2 : pmR x.2.2.1 x.2.1.length := v.p2
 have hle : x.2.1.length ≤ 8 := v.le
 have htwo : 2 ≤ x.2.1.length := v.two
 have hbl : x.2.2.1.length = x.2.1.length := v.len
 have hxl := hx.len
 refine Ct.mk Tryz.func44 rfl Tryz.ntmps44 rfl (fun w J => ?_); refine jx2 ?_; refine jb 1 rfl ?_; refine ja 2 ?_; refine jx3 ?_; refine Tr.frzB 1 [1] eX (x := x) ⟨rfl, trivial⟩ rfl ?_; refine jn ?_; refine jx2 ?_; refine jc (ct_ropened x h0) ?_; refine ja 3 ?_; refine jx11 ?_; refine tO (ok_build (fun hp => .cons rfl rfl rfl <| .cons rfl rfl rfl <| .cons rfl rfl rfl <| .nil)) rfl rfl ?_; refine ja 4 ?_; refine jx9 ?_; refine Tr.growC 4 6 155 rfl (ks' := [_, _, _, _, _, _, kOsl 155 0]) rfl rfl 30 eNum rfl (.cons inferInstance rfl <| .cons inferInstance rfl <| .cons inferInstance rfl <| .cons inferInstance rfl <| .cons inferInstance rfl <| .cons inferInstance rfl <| .cons inferInstance rfl <| inferInstance) ?_
 refine Tr.for1 (σ := Nat) [⟨1, true, _, _⟩, ⟨2, true, _, _⟩, ⟨3, true, _, _⟩, ⟨4, true, _, _⟩] [⟨2, _, _⟩, ⟨3, _, _⟩] (fun i => [⟨5, true, [], kI (i : Int)⟩]) (fun i => [⟨4, [155], cBlk [kRd (eL eI) x.1.1, kI x.1.2.1, kI x.1.2.2.1, kI x.1.2.2.2, kRd (eL eI) x.2.2.1, kRd (eL eI) x.2.1, kOsl 155 i]⟩, ⟨155, [], cArr true 30 eNum (tab i fun i => giveN (nth (lsX x) i)) i⟩]) (fun i => i ≤ x.2.2.2.length) (fun i => i = x.2.2.2.length) (fun i => x.2.2.2.length - i) (0) zi (Ent.mk (.i rfl zi <| zk) (.e (by rfl) rfl <| .a (by rfl) zi <| zk) rfl) ?_ ?_
 ·intro i hR0
  refine jn ?_; refine jx10 ?_; refine jq ?_ ?_
  ·intro h4
   refine jx4 ?_; refine Tr.draw 10 mixed (by kernel_rfl) ?_
   have hnk : takeN x.1.1 (nth x.2.2.2 i) = nth (lsX x) i := (nth_mapT zo).symm
   refine jx8 ?_; refine rO (ok_call (fun hp => ct_rNormalN x.1 (nth x.2.2.2 i) 2 hpo hs (hx.num _ zo) zo) (.s rfl uu rfl <| .a rfl uu <| .nil)) rfl rfl ?_
   rw [hnk]
   refine RunD.new (ok_bsl eNum 31 (fun hp => .cons rfl <| .nil) rfl rfl rfl rfl) rfl rfl rfl rfl ?_; refine jx1 ?_; refine TrL.wkC 4 (.k <| .k <| .k <| .k <| .k <| .k <| .any <| .nil) rfl ?_; refine jx1 ?_; refine jl ?_; refine jx10 ?_
   exact End.lp (i + 1) zi zo (Ent.mk (.i rfl zi <| zk) (.e (by rfl) rfl <| .a tab_succ.symm zi <| zk) rfl)
  ·intro h4
   replace h4 := Int.not_lt.1 h4
   refine jx4 ?_
   exact End.cut (i) zo (Ent.mk (.i rfl zi <| zk) (zk) rfl)
 ·rintro i hkn
  refine je ?_
  rw [hkn]
  refine jx2 ?_; refine Tr.frzC 155 4 (by simp only [lenMax]; omega) rfl rfl ?_; refine jx6 ?_; exact Rts.resC1 (fn := Tryz.f44) rfl rfl (aggRd rfl (by show _ = ((x.1.1, x.1.2.1, x.1.2.2.1, x.1.2.2.2), x.2.2.1, x.2.1, (lsX x).map giveN); rw [show (lsX x).map giveN = tab x.2.2.2.length fun i => giveN (nth (lsX x) i) from ext_nth (by rw [List.length_map, List.length_map, tab_len]) fun i hi => by rw [List.length_map] at hi; rw [nth_mapG hi, nth_tab (by rw [List.length_map] at hi; exact hi)]]))

end Go.Fl

/- Contracts: Check, Normal, Total, Shifts and Inverse of the program. -/
namespace Go.Fl
open Go Go.Proofs
open TrL renaming op → tO
open RunD renaming op → rO
set_option maxRecDepth 100000

theorem ct_xswapped (r : Ori) : Ct Tryz.prog 85 [kRd eO r] (kRd eO (r.2, r.1)) := by
 refine Ct.mk Tryz.func85 rfl Tryz.ntmps85 rfl (fun w J => ?_); refine jx2 ?_; refine jb 1 rfl ?_; refine ja 2 ?_; refine jx3 ?_; refine Tr.frzB 1 [1] eO (x := r) ⟨rfl, trivial⟩ rfl ?_; refine jn ?_; refine jx5 ?_; refine tO (ok_build (fun hp => .cons rfl rfl rfl <| .cons rfl rfl rfl <| .nil)) rfl rfl ?_; refine jx4 ?_; exact Rts.resC1 (fn := Tryz.f85) rfl rfl (aggRd rfl (by rfl))

theorem ct_fField (r : RlT) (hl : r.1.1.length ≤ 1000) : Ct Tryz.prog 142 [kPtr eReal r] (kRd eFd r.1) := by
 refine Ct.mk Tryz.func142 rfl Tryz.ntmps142 rfl (fun w J => ?_); refine jx2 ?_; refine ja 2 ?_; refine jx6 ?_; refine tO (ok_eqlPn rfl uu) rfl rfl ?_; refine jx2 ?_; refine Tr.cnd rfl ?_ ?_
 ·intro h1
  exact absurd h1 (by decide)
 ·intro h1
  refine jx5 ?_; refine tO (ok_nilP rfl uu) rfl rfl ?_; refine jx2 ?_; refine ja 3 ?_; refine jx7 ?_; refine tO (ok_call (fun hp => ct_cloneI _ zo) (.a rfl uu <| .nil)) rfl rfl ?_; refine jx11 ?_
  exact Rts.resC1 (fn := Tryz.f142) rfl rfl (aggRd rfl zi)

theorem ct_xexchange (r : RlT) (o q : Ori) (ls : List NvT) (l : List NumT) (hf : r.1.1.length ≤ 1000) (h1 : q.1.length ≤ 1000) (h2 : q.2.length ≤ 1000) : Ct Tryz.prog 84 [kPtr eMac (mac r o ls), kRd eO q, kRd (eL eNum) l] (kRd eX (r.1, q.1, q.2, l)) := by
 refine Ct.mk Tryz.func84 rfl Tryz.ntmps84 rfl (fun w J => ?_); refine jx2 ?_; refine jb 4 rfl ?_; refine ja 6 ?_; refine jx3 ?_; refine Tr.frzB 4 [4] eO (x := q) ⟨rfl, trivial⟩ rfl ?_; refine jn ?_; refine Tr.draw 12 mixed (by kernel_rfl) ?_; refine jx1 ?_; refine rO (ok_nilP rfl uu) rfl rfl ?_; refine jx2 ?_; refine jd (ct_fField r hf) ?_; refine jx2 ?_; refine jd (ct_cloneI q.1 zo) ?_; refine jx2 ?_; refine jd (ct_cloneI q.2 zo) ?_; refine jx2 ?_; refine tO (ok_build (fun hp => .cons rfl rfl rfl <| .cons rfl rfl rfl <| .cons rfl rfl rfl <| .cons rfl rfl rfl <| .nil)) rfl rfl ?_
 refine jx4 ?_; exact Rts.resC1 (fn := Tryz.f84) rfl rfl (aggRd rfl (by rfl))

theorem ct_xrenumbered (r : Ori) (v : RowsOk r) : Ct Tryz.prog 90 [kRd eO r] (kTup [kRd eO (renT r, renB r), kRd (eL eI) (nmV r.1)]) := by
 have hp1 := v.p1
 have hp2 := v.p2
 have hle := v.le
 have hbl := v.len
 have hnl := nmV_len (row := r.1)
 refine Ct.mk Tryz.func90 rfl Tryz.ntmps90 rfl (fun w J => ?_); refine jx2 ?_; refine jb 1 rfl ?_; refine ja 2 ?_; refine jx4 ?_; refine Tr.frzB 1 [1] eO (x := r) ⟨rfl, trivial⟩ rfl ?_; refine jn ?_; refine jx1 ?_; refine ja 4 ?_; refine jx7 ?_; refine TrL.new (ok_makeN eI 13 rfl uu rfl uu rfl rfl rfl (fun _ => zo)) rfl rfl rfl rfl ?_; refine jx12 ?_; refine Tr.growC 4 0 141 rfl (ks' := [kOsl 141 0, _]) rfl rfl 3 eI rfl (.cons inferInstance rfl <| .cons inferInstance rfl <| inferInstance) ?_
 refine Tr.for1 (σ := Nat) [⟨1, true, _, _⟩, ⟨2, true, _, _⟩, ⟨4, true, _, _⟩, ⟨15, true, _, _⟩, ⟨16, true, _, _⟩] [⟨2, _, _⟩] (fun k => [⟨5, true, [13], kOsl 13 r.1.length⟩, ⟨17, true, [], kI (k : Int)⟩]) (fun k => [⟨13, [], cArr false 3 eI (flP (fun i => (i : Int)) 0 r.1 k) r.1.length⟩, ⟨4, [141], cBlk [kOsl 141 k, kDet (.slice none 0 0)]⟩, ⟨141, [], cArr true 3 eI (tab k fun i => (i : Int)) k⟩]) (fun k => k ≤ r.1.length) (fun k => k = r.1.length) (fun k => r.1.length - k) (0) zi (Ent.mk (.o rfl zi rfl <| .i rfl zi <| zk) (.a flP_zero.symm zi <| .e (by rfl) rfl <| .a (by rfl) zi <| zk) rfl) ?_ ?_
 ·intro k hR0
  refine jn ?_
  have hrk := hp1.1 k
  refine jx6 ?_; refine jq ?_ ?_
  ·intro h4
   refine jx26 ?_; refine TrL.new (ok_bsl eI 29 (fun hp => .cons rfl <| .nil) rfl rfl rfl rfl) rfl rfl rfl rfl ?_; refine TrL.wkC 4 (.any <| .k <| .nil) rfl ?_; refine jx1 ?_; refine jl ?_; refine jx9 ?_
   exact End.lp (k + 1) zi zo (Ent.mk (.o rfl zi rfl <| .i rfl zi <| zk) (.a (by rw [← flP_succ hp1 zo]) zi <| .e (by rfl) rfl <| .a tab_succ.symm zi <| zk) rfl)
  ·intro h4
   replace h4 := Int.not_lt.1 h4
   refine jx4 ?_
   exact End.cut (k) zo (Ent.mk (.o rfl zi rfl <| .i rfl zi <| zk) (zk) rfl)
 ·rintro k hkn
  refine je ?_
  have hfe : flP (fun i => (i : Int)) 0 r.1 r.1.length = nmV r.1 := flP_end hp1
  rw [hkn, hfe]
  refine jx10 ?_; refine Tr.growC 4 1 142 rfl (ks' := [_, kOsl 142 0]) rfl rfl 3 eI rfl (.cons inferInstance rfl <| .cons inferInstance rfl <| inferInstance) ?_
  refine Tr.for1 (σ := Nat) [⟨2, true, _, _⟩, ⟨4, true, _, _⟩, ⟨5, true, _, _⟩, ⟨34, true, _, _⟩, ⟨35, true, _, _⟩] [⟨2, _, _⟩, ⟨13, _, _⟩, ⟨141, _, _⟩] (fun k => [⟨36, true, [], kI (k : Int)⟩]) (fun k => [⟨4, [141, 142], cBlk [kOsl 141 r.1.length, kOsl 142 k]⟩, ⟨142, [], cArr true 3 eI (tab k fun i => (r.1.idxOf (nth r.2 i) : Int)) k⟩]) (fun k => k ≤ r.1.length) (fun k => k = r.1.length) (fun k => r.1.length - k) (0) zi (Ent.mk (.i rfl zi <| zk) (.e (by rfl) rfl <| .a (by rfl) zi <| zk) rfl) ?_ ?_
  ·intro k hR1
   refine jn ?_; refine jx6 ?_; refine jq ?_ ?_
   ·intro h10
    refine jx11 ?_; refine Tr.draw 7 mixed (by kernel_rfl) ?_
    have hr2 := hp2.1 k zo
    have hnk : nth (nmV r.1) (nth r.2 k).toNat = (r.1.idxOf (nth r.2 k) : Int) := by rw [nmV_at hp1 zo, show (((nth r.2 k).toNat : Nat) : Int) = nth r.2 k by omega]
    refine jx6 ?_
    rw [hnk]
    refine RunD.new (ok_bsl eI 46 (fun hp => .cons rfl <| .nil) rfl rfl rfl rfl) rfl rfl rfl rfl ?_; refine jx1 ?_; refine TrL.wkC 4 (.k <| .any <| .nil) rfl ?_; refine jx1 ?_; refine jl ?_; refine jx9 ?_
    exact End.lp (k + 1) zi zo (Ent.mk (.i rfl zi <| zk) (.e (by rfl) rfl <| .a tab_succ.symm zi <| zk) rfl)
   ·intro h10
    replace h10 := Int.not_lt.1 h10
    refine jx4 ?_
    exact End.cut (k) zo (Ent.mk (.i rfl zi <| zk) (zk) rfl)
  ·rintro k hkn
   refine je ?_
   rw [hkn]
   refine jx2 ?_; refine Tr.frzC 141 4 (by simp only [lenMax]; omega) rfl rfl ?_; refine Tr.frzC 142 4 (by simp only [lenMax]; omega) rfl rfl ?_; refine jn ?_; refine jx7 ?_; refine Tr.frz 13 [3] ⟨rfl, trivial⟩ (by simp only [lenMax]; omega) rfl ?_; refine jx1 ?_
   exact Rts.resC (fn := Tryz.f90) (ts := [3]) rfl rfl rfl (aggRd rfl (by rfl)) (.r rfl zi <| .nil)

theorem ct_xTotalG (x : ExT) (D : Int) (M : Nat) (hx : XOk x) (hlo : LenOk x.1.1 D M x.2.1.length (lsX x)) : Ct Tryz.prog 37 [kRd eX x] (kTup [kRd eNum (giveN (totV (lsX x) x.2.1)), kI 0]) := by
 refine Ct.mk Tryz.func37 rfl Tryz.ntmps37 rfl (fun w J => ?_); refine jx2 ?_; refine jb 1 rfl ?_; refine ja 2 ?_; refine jx6 ?_; refine jc (ct_xopX x D M hx hlo) ?_; refine jx14 ?_; refine Tr.cnd rfl ?_ ?_
 ·intro h2
  exact absurd h2 (by decide)
 ·intro h2
  refine jx5 ?_; refine tO (ok_nilP rfl uu) rfl rfl ?_; refine jx7 ?_
  exact Rts.resC (fn := Tryz.f37) (ts := [3]) rfl rfl rfl (aggRd rfl zi) (.i rfl zi <| .nil)

theorem ct_xShiftsG (x : ExT) (D : Int) (M : Nat) (hx : XOk x) (hlo : LenOk x.1.1 D M x.2.1.length (lsX x)) : Ct Tryz.prog 38 [kRd eX x] (kTup [kRd (eL eNum) ((awV (oX x) (lsX x) x.2.1.length).map giveN), kI 0]) := by
 refine Ct.mk Tryz.func38 rfl Tryz.ntmps38 rfl (fun w J => ?_); refine jx2 ?_; refine jb 1 rfl ?_; refine jx7 ?_; refine jc (ct_xopX x D M hx hlo) ?_; refine jx14 ?_; refine Tr.cnd rfl ?_ ?_
 ·intro h2
  exact absurd h2 (by decide)
 ·intro h2
  refine jx5 ?_; refine tO (ok_nilP rfl uu) rfl rfl ?_; refine jx7 ?_
  exact Rts.res (fn := Tryz.f38) (ts := [2, 3]) rfl rfl (.r rfl zi <| .i rfl zi <| .nil)

theorem ct_xCheckG (x : ExT) (D : Int) (M : Nat) (hx : XOk x) (hlo : LenOk x.1.1 D M x.2.1.length (lsX x)) : Ct Tryz.prog 39 [kRd eX x] (kI 0) := by
 refine Ct.mk Tryz.func39 rfl Tryz.ntmps39 rfl (fun w J => ?_); refine jx2 ?_; refine jb 1 rfl ?_; refine jx6 ?_; refine jc (ct_xopX x D M hx hlo) ?_; refine jx14 ?_
 exact Rts.res1 (fn := Tryz.f39) rfl (.i rfl zi <| .nil)

theorem ct_xInverseG (x : ExT) (D : Int) (M : Nat) (hx : XOk x) (hlo : LenOk x.1.1 D M x.2.1.length (lsX x)) : Ct Tryz.prog 31 [kRd eX x] (kTup [kRd eX (ivX x), kI 0]) := by
 have h0 := hx.fld
 have hpo := pol_open h0
 have hs := (chkF_0 h0).1.2.1
 have v := hx.rows
 have hp1 : pmR x.2.1 x.2.1.length := v.p1
 have hp2 : pmR x.2.2.1 x.2.1.length := v.p2
 have hle : x.2.1.length ≤ 8 := v.le
 have htwo : 2 ≤ x.2.1.length := v.two
 have hbl : x.2.2.1.length = x.2.1.length := v.len
 have hxl := hx.len
 have hll := hlo.len
 have hfl : x.1.1.length ≤ 1000 := by have := (chkF_0 h0).1.1; omega
 refine Ct.mk Tryz.func31 rfl Tryz.ntmps31 rfl (fun w J => ?_); refine jx2 ?_; refine jb 1 rfl ?_; refine ja 2 ?_; refine jx6 ?_; refine jc (ct_xopX x D M hx hlo) ?_; refine jx14 ?_; refine Tr.cnd rfl ?_ ?_
 ·intro h2
  exact absurd h2 (by decide)
 ·intro h2
  refine jx3 ?_; refine Tr.draw 10 mixed (by kernel_rfl) ?_; refine jx2 ?_; refine rO (ok_nilP rfl uu) rfl rfl ?_; refine jx2 ?_; refine jd (ct_xswapped (oX x)) ?_; refine jx1 ?_; refine rO (ok_nilP rfl uu) rfl rfl ?_; refine jx3 ?_; refine jc (ct_xexchange (openR x.1) (oX x) (x.2.2.1, x.2.1) (lsX x) ((lsX x).map giveN) hfl (by show x.2.2.1.length ≤ 1000; omega) (by show x.2.1.length ≤ 1000; omega)) ?_; refine jx5 ?_
  exact Rts.resC (fn := Tryz.f31) (ts := [3]) rfl rfl rfl (aggRd rfl zi) (.i rfl zi <| .nil)

theorem ct_xNormalG (x : ExT) (D : Int) (M : Nat) (hx : XOk x) (hlo : LenOk x.1.1 D M x.2.1.length (lsX x)) : Ct Tryz.prog 36 [kRd eX x] (kTup [kRd eX (nmX x), kI 0]) := by
 have h0 := hx.fld
 have hpo := pol_open h0
 have hs := (chkF_0 h0).1.2.1
 have v := hx.rows
 have hp1 : pmR x.2.1 x.2.1.length := v.p1
 have hp2 : pmR x.2.2.1 x.2.1.length := v.p2
 have hle : x.2.1.length ≤ 8 := v.le
 have htwo : 2 ≤ x.2.1.length := v.two
 have hbl : x.2.2.1.length = x.2.1.length := v.len
 have hxl := hx.len
 have hll := hlo.len
 have hfl : x.1.1.length ≤ 1000 := by have := (chkF_0 h0).1.1; omega
 have hpn := nmV_pm hp1
 have hnl := nmV_len (row := x.2.1)
 have hnl2 : (nmV (oX x).1).length = x.2.1.length := hnl
 have hml : ((lsX x).map giveN).length = x.2.1.length := by rw [List.length_map, List.length_map, hxl]
 have hrl : (renT (oX x)).length = x.2.1.length := tab_len
 have hrb : (renB (oX x)).length = x.2.1.length := tab_len
 refine Ct.mk Tryz.func36 rfl Tryz.ntmps36 rfl (fun w J => ?_); refine jx2 ?_; refine jb 1 rfl ?_; refine ja 2 ?_; refine jx6 ?_; refine jc (ct_xopX x D M hx hlo) ?_; refine jx14 ?_; refine Tr.cnd rfl ?_ ?_
 ·intro h2
  exact absurd h2 (by decide)
 ·intro h2
  refine jx5 ?_; refine tO (ok_nilP rfl uu) rfl rfl ?_; refine jx2 ?_; refine jc (ct_xrenumbered (oX x) v) ?_; refine jx3 ?_; refine ja 6 ?_; refine jx8 ?_; refine TrL.new (ok_makeN eNum 30 rfl uu rfl uu rfl rfl rfl (fun _ => zo)) rfl rfl rfl rfl ?_; refine jx11 ?_
  refine Tr.for1 (σ := Nat) [⟨2, true, _, _⟩, ⟨4, true, _, _⟩, ⟨6, true, _, _⟩, ⟨31, true, _, _⟩, ⟨32, true, _, _⟩] [⟨2, _, _⟩, ⟨6, _, _⟩] (fun k => [⟨8, true, [30], kOsl 30 x.2.1.length⟩, ⟨33, true, [], kI (k : Int)⟩]) (fun k => [⟨30, [], cArr false 30 eNum (flP (fun a => giveN (nth (lsX x) a)) ([], []) (nmV x.2.1) k) x.2.1.length⟩]) (fun k => k ≤ x.2.1.length) (fun k => k = x.2.1.length) (fun k => x.2.1.length - k) (0) zi (Ent.mk (.o rfl zi rfl <| .i rfl zi <| zk) (.a (by rw [flP_zero, hnl]) zi <| zk) rfl) ?_ ?_
  ·intro k hR0
   refine jn ?_; refine jx6 ?_; refine jq ?_ ?_
   ·intro h7
    refine jx14 ?_
    have hnk := hpn.1 k zo
    have hgk : nth ((lsX x).map giveN) k = giveN (nth (lsX x) k) := nth_mapG (by rw [List.length_map]; omega)
    refine jx3 ?_; refine tO (ok_nilP rfl uu) rfl rfl ?_; refine jx5 ?_
    rw [hgk]
    refine jx9 ?_
    exact End.lp (k + 1) zi zo (Ent.mk (.o rfl zi rfl <| .i rfl zi <| zk) (.a (by rw [← flP_succ hpn zo]) zi <| zk) rfl)
   ·intro h7
    replace h7 := Int.not_lt.1 h7
    refine jx4 ?_
    exact End.cut (k) zo (Ent.mk (.o rfl zi rfl <| .i rfl zi <| zk) (zk) rfl)
  ·rintro k hkn
   refine je ?_
   have hfe := renL_fl (o := oX x) (ls := lsX x) hp1
   rw [hnl] at hfe
   rw [hkn, hfe]
   refine jx2 ?_; refine Tr.frz 30 [8] ⟨rfl, trivial⟩ (by simp only [lenMax]; omega) rfl ?_; refine jn ?_; refine jx4 ?_; refine jc (ct_xexchange (openR x.1) (oX x) (renT (oX x), renB (oX x)) (lsX x) ((renL (oX x) (lsX x)).map giveN) hfl (by show (renT (oX x)).length ≤ 1000; omega) (by show (renB (oX x)).length ≤ 1000; omega)) ?_; refine jx5 ?_
   exact Rts.resC (fn := Tryz.f36) (ts := [3]) rfl rfl rfl (aggRd rfl zi) (.i rfl zi <| .nil)

end Go.Fl

/- Contracts: errors of Check, Normal, Total, Shifts and Inverse. -/
namespace Go.Fl
open Go Go.Proofs
open TrL renaming op → tO
open RunD renaming op → rO
set_option maxRecDepth 100000

theorem ct_xCheckE (x : ExT) (hsm : SmX x) (hne : chkX x ≠ 0) : Ct Tryz.prog 39 [kRd eX x] (kI (chkX x)) := by
 refine Ct.mk Tryz.func39 rfl Tryz.ntmps39 rfl (fun w J => ?_); refine jx2 ?_; refine jb 1 rfl ?_; refine jx6 ?_; refine jc (ct_xopenB x hsm hne) ?_; refine jx14 ?_
 exact Rts.res1 (fn := Tryz.f39) rfl (.i rfl zi <| .nil)

theorem ct_xTotalE (x : ExT) (hsm : SmX x) (hne : chkX x ≠ 0) : Ct Tryz.prog 37 [kRd eX x] (kTup [kRd eNum ([], []), kI (chkX x)]) := by
 refine Ct.mk Tryz.func37 rfl Tryz.ntmps37 rfl (fun w J => ?_); refine jx2 ?_; refine jb 1 rfl ?_; refine ja 2 ?_; refine jx6 ?_; refine jc (ct_xopenB x hsm hne) ?_; refine jx14 ?_; refine Tr.cnd rfl ?_ ?_
 ·intro h2
  refine jx2 ?_; refine tO (ok_build (fun hp => .nil)) rfl rfl ?_; refine jx7 ?_
  exact Rts.resC (fn := Tryz.f37) (ts := [3]) rfl rfl rfl (aggRd rfl (by rfl)) (.i rfl zi <| .nil)
 ·intro h2
  exact absurd (of_decide_eq_false h2) (fun e => e hne)

theorem ct_xShiftsE (x : ExT) (hsm : SmX x) (hne : chkX x ≠ 0) : Ct Tryz.prog 38 [kRd eX x] (kTup [kRd (eL eNum) [], kI (chkX x)]) := by
 refine Ct.mk Tryz.func38 rfl Tryz.ntmps38 rfl (fun w J => ?_); refine jx2 ?_; refine jb 1 rfl ?_; refine jx7 ?_; refine jc (ct_xopenB x hsm hne) ?_; refine jx14 ?_; refine Tr.cnd rfl ?_ ?_
 ·intro h2
  refine jx9 ?_
  exact Rts.res (fn := Tryz.f38) (ts := [2, 3]) rfl rfl (.n rfl zi <| .i rfl zi <| .nil)
 ·intro h2
  exact absurd (of_decide_eq_false h2) (fun e => e hne)

theorem ct_xNormalE (x : ExT) (hsm : SmX x) (hne : chkX x ≠ 0) : Ct Tryz.prog 36 [kRd eX x] (kTup [kRd eX exZ, kI (chkX x)]) := by
 refine Ct.mk Tryz.func36 rfl Tryz.ntmps36 rfl (fun w J => ?_); refine jx2 ?_; refine jb 1 rfl ?_; refine ja 2 ?_; refine jx6 ?_; refine jc (ct_xopenB x hsm hne) ?_; refine jx14 ?_; refine Tr.cnd rfl ?_ ?_
 ·intro h2
  refine jx2 ?_; refine tO (ok_build (fun hp => .nil)) rfl rfl ?_; refine jx7 ?_
  exact Rts.resC (fn := Tryz.f36) (ts := [3]) rfl rfl rfl (aggRd rfl (by rfl)) (.i rfl zi <| .nil)
 ·intro h2
  exact absurd (of_decide_eq_false h2) (fun e => e hne)

theorem ct_xInverseE (x : ExT) (hsm : SmX x) (hne : chkX x ≠ 0) : Ct Tryz.prog 31 [kRd eX x] (kTup [kRd eX exZ, kI (chkX x)]) := by
 refine Ct.mk Tryz.func31 rfl Tryz.ntmps31 rfl (fun w J => ?_); refine jx2 ?_; refine jb 1 rfl ?_; refine ja 2 ?_; refine jx6 ?_; refine jc (ct_xopenB x hsm hne) ?_; refine jx14 ?_; refine Tr.cnd rfl ?_ ?_
 ·intro h2
  refine jx2 ?_; refine tO (ok_build (fun hp => .nil)) rfl rfl ?_; refine jx7 ?_
  exact Rts.resC (fn := Tryz.f31) (ts := [3]) rfl rfl rfl (aggRd rfl (by rfl)) (.i rfl zi <| .nil)
 ·intro h2
  exact absurd (of_decide_eq_false h2) (fun e => e hne)

end Go.Fl

/- The law of exchanges. -/
namespace Go.Fl
open Go Go.Proofs
open TrL renaming op → tO
open RunD renaming op → rO
set_option maxRecDepth 100000

noncomputable def cN (x : ExT) : ExT := if chkX x ≠ 0 then exZ else nmX x
theorem ct_cN (x : ExT) (hsm : SmX x) : Ct Tryz.prog 36 [kRd eX x] (kTup [kRd eX (cN x), kI (chkX x)]) := by
 unfold cN
 by_cases h : chkX x = 0
 ·have hx := chkX_ok h hsm
  obtain ⟨D, M, hlo, _⟩ := hx.dm (ps := []) (fun _ hp => by cases hp) (Nat.zero_le _)
  rw [if_neg (fun a => a h), h]
  exact ct_xNormalG x D M hx hlo
 ·rw [if_pos h]
  exact ct_xNormalE x hsm h
noncomputable def cT (x : ExT) : NumT := if chkX x ≠ 0 then ([], []) else giveN (totV (lsX x) x.2.1)
theorem ct_cT (x : ExT) (hsm : SmX x) : Ct Tryz.prog 37 [kRd eX x] (kTup [kRd eNum (cT x), kI (chkX x)]) := by
 unfold cT
 by_cases h : chkX x = 0
 ·have hx := chkX_ok h hsm
  obtain ⟨D, M, hlo, _⟩ := hx.dm (ps := []) (fun _ hp => by cases hp) (Nat.zero_le _)
  rw [if_neg (fun a => a h), h]
  exact ct_xTotalG x D M hx hlo
 ·rw [if_pos h]
  exact ct_xTotalE x hsm h
noncomputable def cS (x : ExT) : List NumT := if chkX x ≠ 0 then [] else (awV (oX x) (lsX x) x.2.1.length).map giveN
theorem ct_cS (x : ExT) (hsm : SmX x) : Ct Tryz.prog 38 [kRd eX x] (kTup [kRd (eL eNum) (cS x), kI (chkX x)]) := by
 unfold cS
 by_cases h : chkX x = 0
 ·have hx := chkX_ok h hsm
  obtain ⟨D, M, hlo, _⟩ := hx.dm (ps := []) (fun _ hp => by cases hp) (Nat.zero_le _)
  rw [if_neg (fun a => a h), h]
  exact ct_xShiftsG x D M hx hlo
 ·rw [if_pos h]
  exact ct_xShiftsE x hsm h
noncomputable def cI (x : ExT) : ExT := if chkX x ≠ 0 then exZ else ivX x
theorem ct_cI (x : ExT) (hsm : SmX x) : Ct Tryz.prog 31 [kRd eX x] (kTup [kRd eX (cI x), kI (chkX x)]) := by
 unfold cI
 by_cases h : chkX x = 0
 ·have hx := chkX_ok h hsm
  obtain ⟨D, M, hlo, _⟩ := hx.dm (ps := []) (fun _ hp => by cases hp) (Nat.zero_le _)
  rw [if_neg (fun a => a h), h]
  exact ct_xInverseG x D M hx hlo
 ·rw [if_pos h]
  exact ct_xInverseE x hsm h
theorem ct_cC (x : ExT) (hsm : SmX x) : Ct Tryz.prog 39 [kRd eX x] (kI (chkX x)) := by
 by_cases h : chkX x = 0
 ·have hx := chkX_ok h hsm
  obtain ⟨D, M, hlo, _⟩ := hx.dm (ps := []) (fun _ hp => by cases hp) (Nat.zero_le _)
  rw [h]
  exact ct_xCheckG x D M hx hlo
 ·exact ct_xCheckE x hsm h
theorem ct_ExchangeChecks (x : ExT) (hxn : ∀ a, InN (nth x.2.2.2 a)) : Ct Tryz.prog 7 [kRd eX x] (kB true) := by
 refine Ct.mk Tryz.func7 rfl Tryz.ntmps7 rfl (fun w J => ?_); refine jx2 ?_; refine jb 1 rfl ?_; refine jx5 ?_; refine Tr.frzB 1 [1] eX (x := x) ⟨rfl, trivial⟩ rfl ?_; refine jn ?_; refine jx1 ?_; refine jc ct_awake ?_; refine jx3 ?_; refine Tr.cnd rfl ?_ ?_
 ·intro h1
  exact absurd h1 (by decide)
 ·intro h1
  refine jx6 ?_; refine jc (ct_xSmall x) ?_; refine jx3 ?_; refine Tr.cnd rfl ?_ ?_
  ·intro h3
   refine jx7 ?_
   exact Rts.res1 (fn := Tryz.f7) rfl (.b rfl zi <| .nil)
  ·intro h3
   have hsm := smB_ok (by simpa using h3) hxn
   refine jx5 ?_; refine jc (ct_cN x hsm) ?_; refine jx3 ?_; refine ja 3 ?_; refine jx7 ?_; refine jc (ct_cT x hsm) ?_; refine jx3 ?_; refine ja 5 ?_; refine jx7 ?_; refine jc (ct_cS x hsm) ?_; refine jx10 ?_; refine jc (ct_cI x hsm) ?_; refine jx3 ?_; refine ja 9 ?_; refine jx7 ?_; refine jc (ct_rxCheck x hsm) ?_; refine jx7 ?_; refine jc (ct_cC x hsm) ?_; refine jx24 ?_; refine Tr.cnd rfl ?_ ?_
   ·intro h10
    simp at h10
   ·intro h10
    refine jx9 ?_; refine jq ?_ ?_
    ·intro h12
     have e1 : cN x = exZ := if_pos h12
     have e2 : cT x = ([], []) := if_pos h12
     have e3 : cS x = [] := if_pos h12
     have e4 : cI x = exZ := if_pos h12
     refine jx3 ?_; refine jc (ct_xnone (cN x)) ?_; refine jx2 ?_; refine TrL.gd rfl rfl rfl (ok_call (fun hp => ct_xnone (cI x)) (.s rfl id rfl <| .nil)) rfl rfl ?_; refine jx3 ?_; refine TrL.gd rfl rfl rfl (ok_build (fun hp => .nil)) rfl rfl ?_; refine TrL.gd rfl rfl rfl (ok_call (fun hp => ct_bSameNum (cT x) ([], [])) (.s rfl id rfl <| .s rfl id rfl <| .nil)) rfl rfl ?_; refine jx11 ?_; exact Rts.res1 (fn := Tryz.f7) rfl (.b rfl (by rw [e1, e2, e3, e4, exB_refl]; simp) <| .nil)
    ·intro h12
     replace h12 := Classical.not_not.1 h12
     have hz : chkX x = 0 := by omega
     have hx := chkX_ok hz hsm
     obtain ⟨D, M, hlo, _⟩ := hx.dm (ps := []) (fun _ hp => by cases hp) (Nat.zero_le _)
     have e1 : cN x = nmX x := if_neg (fun a => a hz)
     have e2 : cT x = giveN (totV (lsX x) x.2.1) := if_neg (fun a => a hz)
     have e3 : cS x = (awV (oX x) (lsX x) x.2.1.length).map giveN := if_neg (fun a => a hz)
     have e4 : cI x = ivX x := if_neg (fun a => a hz)
     refine jx3 ?_; refine Tr.draw 20 mixed (by kernel_rfl) ?_; refine jx2 ?_; refine jd (ct_rxNormal x hx) ?_; refine jd (ct_bSameExchange (cN x) (nmX x)) ?_; refine jx3 ?_; refine RunD.gd rfl rfl rfl (ok_call (fun hp => ct_rTotal x D M hx hlo) (.a rfl id <| .nil)) rfl rfl ?_; refine RunD.gd rfl rfl rfl (ok_call (fun hp => ct_bSameNum (cT x) (giveN (totV (lsX x) x.2.1))) (.s rfl id rfl <| .a rfl id <| .nil)) rfl rfl ?_; refine jx4 ?_; refine RunD.gd rfl rfl rfl (ok_call (fun hp => ct_rShifts x D M hx hlo) (.a rfl id <| .nil)) rfl rfl ?_; refine RunD.gd rfl rfl rfl (ok_call (fun hp => ct_bSameNums (cS x) ((awV (oX x) (lsX x) x.2.1.length).map giveN)) (.a rfl id <| .a rfl id <| .nil)) rfl rfl ?_
     refine jx4 ?_; refine RunD.gd rfl rfl rfl (ok_call (fun hp => ct_rxInverse x hx) (.a rfl id <| .nil)) rfl rfl ?_; refine jx1 ?_; refine TrL.gd rfl rfl rfl (ok_call (fun hp => ct_bSameExchange (cI x) (ivX x)) (.s rfl id rfl <| .a rfl id <| .nil)) rfl rfl ?_; refine jx5 ?_; exact Rts.res1 (fn := Tryz.f7) rfl (.b rfl (by rw [e1, e2, e3, e4, exB_refl, exB_refl]; simp) <| .nil)

end Go.Fl
