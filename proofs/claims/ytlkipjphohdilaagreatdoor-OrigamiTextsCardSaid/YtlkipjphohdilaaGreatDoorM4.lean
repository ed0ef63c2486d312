/- THE LAW OrigamiTexts HOLDS FOR EVERY INPUT: whatever the arguments, the call returns true, and each argument reads behind it as before. Conditions: those of the given row (its listed variables as the program lays them). -/
import Derived.Test.YtlkipjphohdilaaGreatDoorM3
import Derived.WideLaws
import Derived.Lib.SplitLaws
import Derived.Lib.Join
import Derived.Lib.AtoiAll
import Derived.Lib.ItoaNum
import Derived.Shelf.Strings.Prefix
import Derived.Shelf.Strings.SplitShaped
import Derived.Shelf.Strconv.Itoa3
import Derived.Shelf.Strconv.ErrVarAll
import Derived.Shelf.Strings.OnBuilder
import Derived.Test.YtlkipjphohdilaaGreatDoorProg
import Derived.Laws.BytesArg
import Derived.HandedShaped
import Derived.Stop.LaidErr
import Derived.Test.YtlkipjphohdilaaGreatDoorTie
import Derived.Test.YtlkipjphohdilaaGreatDoorCards
import Derived.Test.YtlkipjphohdilaaGreatDoorRows

/- Functions that return a part of their argument; calls that change a lent row and return a part of it; queues that become immutable. No program in sight. -/
namespace Go.Fl
open Go Go.RowKit
instance {t n o l : Nat} : OneC (kOsq t n o l) := ⟨fun ⟨_, _, _, _, _, _, h⟩ => by subst h; rfl⟩
/-! ### 1. Slices with their address -/
/-- A slice with its address and its room, and what it reads in immutable memory. -/
def kSlv {α : Type} (e : Enc α) (ad : Option Addr) (cap : Nat) (xs : List α) : Know := fun g v => v = .slice ad xs.length cap ∧ kRd (eL e) xs g v
instance {α : Type} (e : Enc α) (ad : Option Addr) (cap : Nat) (xs : List α) : KDep (kSlv e ad cap xs) [] := ⟨fun hJ hd h => ⟨h.1, (inferInstance : KDep (kRd (eL e) xs) []).dep hJ hd h.2⟩⟩
theorem kSlv.cast {α : Type} {e : Enc α} {ad : Option Addr} {cap : Nat} {xs ys : List α} (h : xs = ys) {g : Gh} {v : Value} (k : kSlv e ad cap xs g v) : kSlv e ad cap ys g v := h ▸ k
section
variable {P : Program} {c : Ctx} {S : Slots} {M : Conts} {p : Bool} {d : Option Tmp} {ty : TypeId} {pos : String} {af : Array Edge} {gd : Option (Nat × Bool)} {x y z : Operand} {b b' b'' : Bool}
end
/-! ### 2. A queue becomes immutable -/
def allOsq (S : Slots) (u n off len : Nat) : List Nat → Prop
  | [] => True
  | s :: r => look S s = some (true, kOsq u n off len) ∧ allOsq S u n off len r
section
variable {P : Program} {n : Nat} {w0 : World} {J0 : JV} {S : Slots} {M M' : Conts} {Q : Exit → Act → World → Prop} {ops : Array Oper} {rest : List Oper}
end
/-! ### 3. A lent row that is changed, and a part of it that comes back -/
/-- A slice of the call's own row t, of which the block is known by name. -/
def kOslAt (t len bl cap : Nat) : Know := fun g v => g.M t = some (.blk bl cap) ∧ v = .slice (some ⟨bl, 0, none⟩) len cap
instance (t len bl cap : Nat) : KDep (kOslAt t len bl cap) [t] := ⟨fun _ hd ⟨h1, h2⟩ => ⟨(hd t (by simp)).trans h1, h2⟩⟩
instance (t len bl cap : Nat) : KHas (kOslAt t len bl cap) t := ⟨fun ⟨h1, _⟩ => by rw [h1]; simp⟩
def RetBr (w : World) (J : JV) (b cap : Nat) (res : Know) (ct' : Cont) : Ending → World → Prop := fun e w' => ∃ r J', e = .returned r ∧ But (.blk b cap) w w' ∧ J.le J' ∧ (∀ b' o, b' < w.heap.size → J' b' o = J b' o) ∧ Im J' w' ∧ res (g1 J' b cap) r ∧ ct' (g1 J' b cap) (.blk b cap) w'.heap[b]?
/-- f changes the row that is its first argument; what it returns may be a part of it. -/
def CtR (P : Program) (f : FuncId) (len : Nat) (ks : List Know) (ct ct' : Cont) (res : Know) : Prop :=
  ∀ w J b cap, Im J w → (∀ o, J b o = none) → b < w.heap.size → ct (g1 J b cap) (.blk b cap) w.heap[b]? → ∀ v vs, v = .slice (some ⟨b, 0, none⟩) len cap → allK ⟨J, noM⟩ ks vs → Calls P f (v :: vs).toArray w (RetBr w J b cap res ct')
section
variable {P : Program} {c : Ctx} {S : Slots} {M : Conts} {p : Bool} {d : Option Tmp} {ty : TypeId} {pos : String} {af : Array Edge} {gd : Option (Nat × Bool)} {x : Operand} {b : Bool}
end
theorem CtR.mk {P : Program} {f : FuncId} {fn : Func} {code : Code} {args : List Know} {res : Know} {ct ct' : Cont} {n len : Nat} (hf : P.funcs[f]? = some fn) (hb : fn.body = some code) (hn : fn.ntmps = n) (hl : Nat.ble (args.length + 1) n = true) [hj : AllJ args] [hcd : CDep ct []]
    (h : ∀ w J b cap, Tr P ⟨w, J, [b], n⟩ (⟨0, true, [0], kOslAt 0 len b cap⟩ :: params 1 args) [⟨0, [], ct⟩] code (bodyPost P fn (RetBr w J b cap res ct'))) : CtR P f len args ct ct' res := by
  intro w J b cap him hJ hlt hct v vs hv hvs
  have hlen := allK_len hvs
  have hle : args.length + 1 ≤ n := Nat.le_of_ble_eq_true hl
  have hM : ∀ t bk, (g1 J b cap).M t = some bk → t = 0 ∧ bk = .blk b cap := fun t bk ht => by
    simp only [g1] at ht
    split at ht
    · rename_i e; cases ht; exact ⟨e, rfl⟩
    · cases ht
  refine calls_of_wp hf hb (h w J b cap _ (g1 J b cap) w ⟨⟨⟨rfl, rfl, rfl, Nat.le_refl _, fun _ _ _ => rfl⟩, JV.le_refl _, fun _ _ _ => rfl, him, fun t b' cap' ht => ?_, fun t t' b1 c1 c2 h1 h2 => ?_⟩, ?_, ?_, ?_, by simp, ?_, ?_, rfl, ?_⟩)
  · obtain ⟨_, e⟩ := hM _ _ ht
    cases e
    exact ⟨.inr (by simp), hlt, hJ⟩
  · rw [(hM _ _ h1).1, (hM _ _ h2).1]
  · intro t bb k hk
    simp only [look] at hk
    cases hb0 : Nat.beq 0 t with
    | true =>
      rw [hb0] at hk
      simp only [cond_true, Option.some.injEq, Prod.mk.injEq] at hk
      obtain ⟨rfl, rfl⟩ := hk
      have := Nat.eq_of_beq_eq_true hb0
      subst this
      refine ⟨fun _ => ?_, fun hf => (by cases hf)⟩
      have : ((v :: vs).toArray ++ Array.replicate (fn.ntmps - (v :: vs).toArray.size) undef).getD 0 undef = v := by
        rw [Array.getD_eq_getD_getElem?, Array.getElem?_append_left (by simp)]
        simp
      rw [this]
      exact ⟨by simp [g1], hv⟩
    | false =>
      rw [hb0] at hk
      obtain ⟨h1, rfl, u, hu, hku⟩ := params_hold (g := g1 J b cap) (allK_sameJ (g := ⟨J, noM⟩) (g' := g1 J b cap) (JV.le_refl _) hj.all hvs) hk
      refine ⟨fun _ => ?_, fun hf => (by cases hf)⟩
      have hu' : (v :: vs)[t]? = some u := by
        rw [show t = (t - 1) + 1 by omega]; simpa using hu
      have ht : t < (v :: vs).length := (List.getElem?_eq_some_iff.1 hu').1
      have : ((v :: vs).toArray ++ Array.replicate (fn.ntmps - (v :: vs).toArray.size) undef).getD t undef = u := by
        rw [Array.getD_eq_getD_getElem?, Array.getElem?_append_left (by simpa using ht)]
        simp only [List.getElem?_toArray]
        rw [hu']; rfl
      rw [this]; exact hku
  · intro e he
    simp only [List.mem_singleton] at he
    subst he
    exact ⟨_, by simp [g1], hct⟩
  · intro t ht
    cases hm : (g1 J b cap).M t with
    | none => exact absurd hm ht
    | some bk => simp [(hM _ _ hm).1]
  · intro e he
    rcases List.mem_cons.1 he with rfl | he
    · exact ⟨inferInstance, fun t ht => by simpa using ht⟩
    · obtain ⟨h1, h2⟩ := params_dep hj.all he
      exact ⟨h1, fun t ht => by rw [h2] at ht; cases ht⟩
  · intro e he
    simp only [List.mem_singleton] at he
    subst he
    exact ⟨hcd, fun t ht => by cases ht⟩
  · simp only [Array.size_append, List.size_toArray, Array.size_replicate, List.length_cons]; omega
section
variable {P : Program} {n : Nat} {w0 : World} {J0 : JV} {S : Slots} {M : Conts} {fn : Func} {b cap s t len : Nat} {ct ct' : Cont} {dep : List Nat} {k res : Know}
end
section
variable {P : Program} {c : Ctx} {ops : Array Oper} {S : Slots} {M : Conts} {rest : List Oper} {Q : Exit → Act → World → Prop}
variable {d : Nat} {ty : TypeId} {pos : String} {af : Array Edge}
end
/-! ### 4. A struct that comes back with a row of one's own -/
section
variable {P : Program} {n0 : Nat} {w0 : World} {J0 : JV} {S : Slots} {M : Conts} {fn : Func}
end
end Go.Fl

/- Closures: values that hold pointers to things of the call's own; their calls are gone through in place, with the caller's own things. No program in sight. -/
namespace Go.Fl
open Go Go.RowKit
/-! ### 1. A closure -/
def kClo (f : FuncId) (ks : List Know) : Know := fun g v => ∃ vs : List Value, v = .func (.func f) #[] vs.toArray ∧ allK g ks vs
instance {f : FuncId} {ks : List Know} {ds : List Nat} [h : KsDep ks ds] : KDep (kClo f ks) ds := ⟨fun hl hd ⟨vs, h1, h2⟩ => ⟨vs, h1, h.dep hl hd h2⟩⟩
instance {f : FuncId} {ks : List Know} : OneC (kClo f ks) := ⟨fun ⟨_, h, _⟩ => by subst h; rfl⟩
/-- What is known of operands, as the call's own ghost has it. -/
inductive ArgsG (S : Slots) (p : Bool) : List Operand → List Know → Prop
  | nil : ArgsG S p [] []
  | cons {x : Operand} {xs : List Operand} {k : Know} {ks : List Know} {b : Bool} (hx : opK S x = some (b, k)) (hb : p = true → b = true) (r : ArgsG S p xs ks) : ArgsG S p (x :: xs) (k :: ks)
theorem ArgsG.eval {S : Slots} {p : Bool} {g : Gh} {ρ : Operand → Value} (hp : p = true) : ∀ {xs : List Operand} {ks : List Know}, ArgsG S p xs ks → (∀ x ∈ xs, ∀ b k, opK S x = some (b, k) → b = true → k g (ρ x)) → allK g ks (xs.map ρ)
  | [], [], _, _ => trivial
  | x :: _, _ :: _, .cons hx hb r, h => ⟨h x List.mem_cons_self _ _ hx (hb hp), ArgsG.eval hp r fun y hy => h y (List.mem_cons_of_mem _ hy)⟩
section
variable {P : Program} {c : Ctx} {S : Slots} {M : Conts} {p : Bool} {d : Option Tmp} {ty : TypeId} {pos : String} {af : Array Edge} {gd : Option (Nat × Bool)} {x : Operand} {b : Bool}
end
/-! ### 2. Things that stay where they are -/
/-- Whatever the slot: the thing t lies in bk. -/
def kTag (t : Nat) (bk : Bk) : Know := fun g _ => g.M t = some bk
instance (t : Nat) (bk : Bk) : KDep (kTag t bk) [t] := ⟨fun _ hd h => (hd t (by simp)).trans h⟩
instance (t : Nat) (bk : Bk) : KHas (kTag t bk) t := ⟨fun {g _} (h : g.M t = some bk) => by rw [h]; simp⟩
def tagSlots (n : Nat) (bks : Nat → Bk) : List Nat → Slots
  | [] => []
  | t :: ts => ⟨n + t, true, [t], kTag t (bks t)⟩ :: tagSlots n bks ts
/-- The slots that a callee begins with. -/
def paramsG : Nat → List (List Nat) → List Know → Slots
  | i, d :: ds, k :: ks => ⟨i, true, d, k⟩ :: paramsG (i + 1) ds ks
  | _, _, _ => []
inductive DepsK : List Know → List (List Nat) → Prop
  | nil : DepsK [] []
  | cons {k : Know} {ks : List Know} {d : List Nat} {ds : List (List Nat)} (h : KDep k d) (r : DepsK ks ds) : DepsK (k :: ks) (d :: ds)
class DepsOf (ks : List Know) (ds : outParam (List (List Nat))) : Prop where
  h : DepsK ks ds
instance : DepsOf [] [] := ⟨.nil⟩
instance {k : Know} {ks : List Know} {d : List Nat} {ds : List (List Nat)} [h : KDep k d] [r : DepsOf ks ds] : DepsOf (k :: ks) (d :: ds) := ⟨.cons h r.h⟩
/-- What a call that was gone through in place leaves. -/
def RetI (c : Ctx) (keep : List Nat) (bks : Nat → Bk) (M : Conts) (res : Know) : Ending → World → Prop := fun e w' => ∃ r g', e = .returned r ∧ Ok c g' w' ∧ ContsHold M g' w' ∧ (∀ t, g'.M t ≠ none → t ∈ tags M) ∧ (tags M).Nodup ∧ ContsDep M M ∧ (∀ t ∈ keep, g'.M t = some (bks t)) ∧ res g' r
/-- What stays known of slots. -/
def keepS (keep : List Nat) : Slots → Slots
  | [] => []
  | e :: S => (cond (subT e.dep keep) e ⟨e.s, e.b, [], kAny⟩) :: keepS keep S
section
variable {P : Program} {ops : Array Oper} {S : Slots} {M M' : Conts} {rest : List Oper} {Q : Exit → Act → World → Prop}
variable {d : Nat} {ty : TypeId} {pos : String} {af : Array Edge} {w0 : World} {J0 : JV} {bor : List Nat} {n : Nat}
end
/-! ### 3. The end of such a call -/
inductive KeptT (S : Slots) (n : Nat) (bks : Nat → Bk) : List Nat → Prop
  | nil : KeptT S n bks []
  | cons {t : Nat} {ts : List Nat} (h : look S (n + t) = some (true, kTag t (bks t))) (r : KeptT S n bks ts) : KeptT S n bks (t :: ts)
theorem KeptT.holds {S : Slots} {n : Nat} {bks : Nat → Bk} {a : Act} {g : Gh} (hs : SlotsHold S a g) : ∀ {ts : List Nat}, KeptT S n bks ts → ∀ t ∈ ts, g.M t = some (bks t)
  | _ :: _, .cons h r, t, ht => by
    rcases List.mem_cons.1 ht with rfl | ht
    · exact (hs _ _ _ h).1 rfl
    · exact r.holds hs t ht
section
variable {P : Program} {c : Ctx} {S : Slots} {M : Conts} {fn : Func} {keep : List Nat} {bks : Nat → Bk} {n t : Nat} {k res : Know}
end
end Go.Fl

/- Parts of a row with their address: in states and results. No program in sight. -/
namespace Go.Fl
open Go Go.RowKit
theorem kSlv.down {α : Type} {e : Enc α} {ad : Option Addr} {cap : Nat} {xs : List α} {g : Gh} {v : Value} (k : kSlv e ad cap xs g v) : kSlv e ad cap xs ⟨g.J, noM⟩ v :=
  (inferInstance : KDep (kSlv e ad cap xs) []).dep (g := g) (g' := ⟨g.J, noM⟩) (JV.le_refl _) (fun _ h => by cases h) k
theorem RetOk.v {S : Slots} {t : Nat} {ts : List Nat} {ks : List Know} {α : Type} {e : Enc α} {ad : Option Addr} {cap : Nat} {xs ys : List α} (hl : look S t = some (true, kSlv e ad cap xs)) (he : xs = ys) (r : RetOk S ts ks) : RetOk S (t :: ts) (kSlv e ad cap ys :: ks) :=
  .cons hl (fun _ _ h => (h.cast he).down) r
theorem SSub.v {S S' : Slots} {M M' : Conts} {s : Nat} {α : Type} {e : Enc α} {ad : Option Addr} {cap : Nat} {xs ys : List α} (hl : look S s = some (true, kSlv e ad cap xs)) (he : xs = ys) (r : SSub S M S' M') : SSub S M (⟨s, true, [], kSlv e ad cap ys⟩ :: S') M' :=
  SSub.conv hl rfl (fun _ _ h => h.cast he) rfl r
section
variable {P : Program} {c : Ctx} {S : Slots} {M : Conts} {p : Bool} {d : Option Tmp} {ty : TypeId} {pos : String} {af : Array Edge} {gd : Option (Nat × Bool)} {x y : Operand} {b b' : Bool}
end
/-! ### Some of the blocks are not written within a region that draws -/
section
variable {P : Program} {c : Ctx} {S : Slots} {M1 M2 M : Conts} {Q : Exit → Act → World → Prop} {a : Act} {g : Gh} {w : World}
end
end Go.Fl

/- Structs that come back with a row of one's own, of which a part is wanted. No program in sight. -/
namespace Go.Fl
open Go Go.RowKit
instance {x : Bool} {u n m : Nat} : KDep (kAgg [kB x, kOsq u n 0 m]) [u] := (inferInstance : KDep (kAgg [kB x, kOsq u n 0 m]) _)
/-! ### A field of a value -/
section
variable {P : Program} {c : Ctx} {S : Slots} {M : Conts} {p : Bool} {d : Option Tmp} {ty : TypeId} {pos : String} {af : Array Edge} {gd : Option (Nat × Bool)} {x : Operand} {b : Bool}
end
end Go.Fl

/- Two structs that come back out of cells; a struct with a nil row. No program in sight. -/
namespace Go.Fl
open Go Go.RowKit
section
variable {P : Program} {n0 : Nat} {w0 : World} {J0 : JV} {S : Slots} {M : Conts} {fn : Func}
end
section
variable {P : Program} {c : Ctx} {S : Slots} {M : Conts} {Sp : World → Prop} {d : Option Tmp} {ty : TypeId} {pos : String} {af : Array Edge} {gd : Option (Nat × Bool)} {x : Operand}
end
theorem SSub.n {S S' : Slots} {M M' : Conts} {s cp : Nat} {α : Type} {e : Enc α} {y : List α} (hl : look S s = some (true, kDet (.slice none 0 cp))) (he : [] = y) (r : SSub S M S' M') : SSub S M (⟨s, true, [], kRd (eL e) y⟩ :: S') M' :=
  SSub.conv hl rfl (fun _ _ h => by subst he; exact ⟨_, rd_nil (c := cp), h⟩) rfl r
end Go.Fl

/- Closures whose captured values are immutable: their calls are calls by contract. No program in sight. -/
namespace Go.Fl
open Go Go.RowKit
/-- A function value that keeps a contract. -/
def kFnC {α : Type} (P : Program) (φ : α → Prop) (ks : α → List Know) (res : α → Know) : Know := fun g v => ∃ (f : FuncId) (caps : Array Value), v = .func (.func f) #[] caps ∧ TyFn P f ∧ ∀ a, φ a → ∀ w J, g.J.le J → Im J w → ∀ vs, allK ⟨J, noM⟩ (ks a) vs → Calls P f (vs.toArray ++ caps) w (RetR w J (res a))
instance {α : Type} {P : Program} {φ : α → Prop} {ks : α → List Know} {res : α → Know} : KDep (kFnC P φ ks res) [] := ⟨fun hl _ ⟨f, caps, h1, h2, h3⟩ => ⟨f, caps, h1, h2, fun a ha w J hJ => h3 a ha w J (JV.le_trans hl hJ)⟩⟩
instance {α : Type} {P : Program} {φ : α → Prop} {ks : α → List Know} {res : α → Know} : OneC (kFnC P φ ks res) := ⟨fun ⟨_, _, h, _⟩ => by subst h; rfl⟩
section
variable {P : Program} {c : Ctx} {S : Slots} {M : Conts} {p : Bool} {d : Option Tmp} {ty : TypeId} {pos : String} {af : Array Edge} {gd : Option (Nat × Bool)} {x : Operand} {b : Bool}
end
/-! ### Function values in cells -/
/-- A cell that holds what k knows. -/
def eFn (k : Know) [hk : KDep k []] [h1 : OneC k] : Enc Unit where
  n := 1
  agg := false
  rd J cs _ := ∃ v, cs = [v] ∧ k ⟨J, noM⟩ v
  len := fun ⟨v, h, _⟩ => by rw [h]; rfl
  one := fun _ => ⟨rfl, fun ⟨v, h, hv⟩ => by cases h; exact h1.imp hv⟩
  all1 := fun ⟨v, h, hv⟩ u hu => by rw [h] at hu; simp at hu; subst hu; exact h1.imp hv
  mono := fun hJ ⟨v, h, hv⟩ => ⟨v, h, hk.dep (g := ⟨_, noM⟩) hJ (fun _ h => by cases h) hv⟩
instance {k : Know} [hk : KDep k []] [h1 : OneC k] : Norm (eFn k) () k := ⟨fun {g v} ⟨cs, ⟨u, h, hu⟩, hv⟩ => by
  subst h
  have e : v = u := hv
  subst e
  exact hk.dep (g := ⟨g.J, noM⟩) (g' := g) (JV.le_refl _) (fun _ h => by cases h) hu⟩
theorem RdOf.fn {k : Know} [hk : KDep k []] [h1 : OneC k] {r : List Know} : RdOf (k :: r) (eFn k) () r := .one fun {g v} h => ⟨v, rfl, hk.dep (g := g) (g' := ⟨g.J, noM⟩) (JV.le_refl _) (fun _ h => by cases h) h⟩
instance {α : Type} {P : Program} {φ : α → Prop} {ks : α → List Know} {res : α → Know} {r : List Know} : RdOf (kFnC P φ ks res :: r) (eFn (kFnC P φ ks res)) () r := .fn
end Go.Fl

/- The end of a call that is gone through in place, with what the caller wants to know. No program in sight. -/
namespace Go.Fl
open Go Go.RowKit
section
variable {P : Program} {c : Ctx} {S : Slots} {M M' : Conts} {fn : Func} {keep : List Nat} {bks : Nat → Bk} {n : Nat}
variable {p : Bool} {d : Option Tmp} {ty : TypeId} {pos : String} {af : Array Edge} {gd : Option (Nat × Bool)} {x : Operand} {b : Bool}
end
instance {f : Fn} {a b : Array Value} {r : List Know} : RdOf (kDet (.func f a b) :: r) (eFn (kDet (.func f a b))) () r := .fn
instance {f : FuncId} {ks : List Know} {r : List Know} [KDep (kClo f ks) []] : RdOf (kClo f ks :: r) (eFn (kClo f ks)) () r := .fn
end Go.Fl

/- Parts of strings, errors against nil, contracts that lean on what package variables hold. -/
namespace Go.Fl
open Go Go.RowKit
/-- An error: nil or not. -/
def kErr (b : Bool) : Know := fun _ v => if b then ∃ t p, v = .iface t p else v = .nilIface
instance {b : Bool} : KDep (kErr b) [] := ⟨fun _ _ h => h⟩
section
variable {P : Program} {c : Ctx} {S : Slots} {M : Conts} {p : Bool} {d : Option Tmp} {ty : TypeId} {pos : String} {af : Array Edge} {gd : Option (Nat × Bool)} {x y z : Operand} {b b' b'' : Bool}
theorem ok_slSlh {t : TypeId} [ht : TyString P t] {s : ByteArray} {ik ik' : IntKind} {i j : Int} (hx : opK S x = some (b, kS s)) (hb : p = true → b = true) (hy : opK S y = some (b', kInt ik i)) (hb' : p = true → b' = true) (hz : opK S z = some (b'', kInt ik' j)) (hb'' : p = true → b'' = true) (h : p = true → 0 ≤ i ∧ i ≤ j ∧ j ≤ s.size) :
    OpOk P c S M ⟨d, .slice t x (some y) (some z) none, ty, pos, af, gd⟩ p (kS (s.extract i.toNat j.toNat)) none :=
  OpOk.pure fun hp a g w _ _ ho => by
    have h1 : a.eval x = _ := ho x (by simp [Op.operands]) b _ hx (hb hp)
    have h2 : a.eval y = _ := ho y (by simp [Op.operands]) b' _ hy (hb' hp)
    have h3 : a.eval z = _ := ho z (by simp [Op.operands]) b'' _ hz (hb'' hp)
    obtain ⟨q0, q1, q2⟩ := h hp
    refine ⟨_, ?_, rfl⟩
    simp only [execOp, h1, h2, h3, Option.map]
    rw [Sem.run_bind, run_sliceAt_string w t _ _ _ _ ht.h, run_slice_string w t s ik ik' i j ht.h q0 q1 q2]
    rfl
theorem ok_slJl1 {t et : TypeId} [ht : TySl P t et] {sz by' : Nat} {zz : Value} [hz : TySz P et sz by' zz] {α : Type} {e : Enc α} {xs ys : List α} (hx : opK S x = some (b, kRd (eL e) xs)) (hb : p = true → b = true) (he : xs.drop 1 = ys) (h : p = true → 1 ≤ xs.length) (hs : sz = e.n) :
    OpOk P c S M ⟨d, .slice t x (some (.const (.int .i64 1))) none none, ty, pos, af, gd⟩ p (kRd (eL e) ys) none := by
  subst he
  exact ok_slJl (i0 := 1) hx hb rfl (fun _ => rfl) (fun hp => ⟨by decide, by have := h hp; omega⟩) hs
theorem ok_neqNilE {t t' : TypeId} {e : Bool} (ht : P.underlying t = some (.interface (P.methodsAt t))) (hx : opK S x = some (b, kErr e)) (hb : p = true → b = true) :
    OpOk P c S M ⟨d, .binOp .neq t x (.const .nilIface) t', ty, pos, af, gd⟩ p (kB e) none :=
  OpOk.pure fun hp a g w _ _ ho => by
    have h1 : kErr e g (a.eval x) := ho x (by simp [Op.operands]) b _ hx (hb hp)
    have he : a.eval (.const .nilIface) = .nilIface := rfl
    cases e with
    | true =>
      obtain ⟨u, q, h2⟩ := h1
      have hg : eqGuard .neq t x (.const .nilIface) (.iface u q) .nilIface = pure () := by cases x <;> rfl
      exact ⟨.bool true, by simp only [execOp, h2, he, hg, Sem.run_bind, Sem.run_pure, Result.andThen_ok, run_neq_held_nil w t u q ht], rfl⟩
    | false =>
      have h2 : a.eval x = .nilIface := h1
      have hg : eqGuard .neq t x (.const .nilIface) .nilIface .nilIface = pure () := by cases x <;> rfl
      exact ⟨.bool false, by simp only [execOp, h2, he, hg, Sem.run_bind, Sem.run_pure, Result.andThen_ok, run_neq_nil_nil w t ht], rfl⟩
end
theorem RetOk.st {S : Slots} {t : Nat} {ts : List Nat} {ks : List Know} {x y : ByteArray} (hl : look S t = some (true, kS x)) (he : x = y) (r : RetOk S ts ks) : RetOk S (t :: ts) (kS y :: ks) := .cons hl (fun _ _ h => by subst he; exact h) r
theorem SSub.st {S : Slots} {M M' : Conts} {S' : Slots} {s : Nat} {x y : ByteArray} (hl : look S s = some (true, kS x)) (he : x = y) (r : SSub S M S' M') : SSub S M (⟨s, true, [], kS y⟩ :: S') M' := r.conv hl rfl (fun _ _ h => by subst he; exact h) rfl
/-! ### What package variables hold -/
class JUp (G : JV → Prop) : Prop where
  up : ∀ {J J' : JV}, J.le J' → G J → G J'
def CtG (G : JV → Prop) (P : Program) (f : FuncId) (args : List Know) (res : Know) : Prop := ∀ w J, G J → Im J w → ∀ vs, allK ⟨J, noM⟩ args vs → Calls P f vs.toArray w (RetR w J res)
theorem CtG.mk {G : JV → Prop} {P : Program} {f : FuncId} {fn : Func} {code : Code} {args : List Know} {res : Know} {n : Nat} (hf : P.funcs[f]? = some fn) (hb : fn.body = some code) (hn : fn.ntmps = n) (hl : Nat.ble args.length n = true) [hj : AllJ args]
    (h : ∀ w J, G J → Tr P ⟨w, J, [], n⟩ (params 0 args) [] code (bodyPost P fn (RetR w J res))) : CtG G P f args res := by
  intro w J hG him vs hvs
  have hlen := allK_len hvs
  have hle : args.length ≤ n := Nat.le_of_ble_eq_true hl
  refine calls_of_wp hf hb (h w J hG _ ⟨J, noM⟩ w ⟨⟨⟨rfl, rfl, rfl, Nat.le_refl _, fun _ _ _ => rfl⟩, JV.le_refl _, fun _ _ _ => rfl, him, fun _ _ _ h => (by cases h), fun _ _ _ _ _ h => (by cases h)⟩, ?_, fun _ h => (by cases h), fun _ h => absurd rfl h, List.nodup_nil, ?_, fun _ h => (by cases h), rfl, ?_⟩)
  · intro t b k hk
    obtain ⟨_, rfl, v, hv, hkv⟩ := params_hold hvs hk
    refine ⟨fun _ => ?_, fun hf => (by cases hf)⟩
    have ht : t < vs.length := (List.getElem?_eq_some_iff.1 (by simpa using hv)).1
    have : (vs.toArray ++ Array.replicate (fn.ntmps - vs.toArray.size) undef).getD t undef = v := by
      rw [Array.getD_eq_getD_getElem?, Array.getElem?_append_left (by simpa using ht)]
      simp only [List.getElem?_toArray]
      rw [show vs[t]? = some v by simpa using hv]
      rfl
    rw [this]; exact hkv
  · intro e he
    obtain ⟨h1, h2⟩ := params_dep hj.all he
    exact ⟨h1, fun t ht => by rw [h2] at ht; cases ht⟩
  · simp only [Array.size_append, List.size_toArray, Array.size_replicate]; omega
section
variable {P : Program} {c : Ctx} {S : Slots} {M : Conts} {p : Bool} {d : Option Tmp} {ty : TypeId} {pos : String} {af : Array Edge} {gd : Option (Nat × Bool)} {x : Operand} {b : Bool}
theorem ok_callG {G : JV → Prop} [hu : JUp G] {f : FuncId} [hf : TyFn P f] {args : List Operand} {tys : Array TypeId} {ks : List Know} {res : Know} (hG : G c.J0) (hct : p = true → CtG G P f ks res) (ha : ArgsOk S p args ks) [hk : KDep res []] :
    OpOk P c S M ⟨d, .call { callee := .value (.func f), args := args.toArray, argTypes := tys }, ty, pos, af, gd⟩ p res none := by
  intro hp a g w hok hc ho _
  have hargs := ha.eval (g := g) (ρ := a.eval) hp (fun y hy b k hk hb => ho y (by simp [Op.operands, Call.operands, hy]) b k hk hb)
  have hr := hct hp w g.J (hu.up hok.jle hG) hok.im _ hargs
  unfold Oper.wp
  simp only [execOp, resolve, Act.eval, Deferred.ofValue, Sem.run_bind, Sem.run_pure, Result.andThen_ok, invoke, List.map_toArray, Array.append_empty, Array.empty_append]
  rw [hf.run]
  simp only [Oper.upon]
  refine hr.mono fun e w' he => ?_
  obtain ⟨r, J', rfl, hbel, hJ, hold, him, hres⟩ := he
  exact ⟨r, _, rfl, Did.call hok hbel hJ hold him hres⟩
end
end Go.Fl

/- Texts of origamis, in plain Lean: numerals, words, lines, what is printed is read back. No program in sight. -/
namespace Go.Fl
/-! ### Strings as lists of bytes -/
abbrev Bt := List UInt8
def mkS (l : Bt) : ByteArray := ⟨l.toArray⟩
abbrev dS (s : ByteArray) : Bt := s.data.toList
theorem dS_inj {a b : ByteArray} (h : dS a = dS b) : a = b := by
  have := congrArg mkS h
  exact this
theorem mkS_app {a b : Bt} : mkS a ++ mkS b = mkS (a ++ b) := by
  apply dS_inj
  simp [mkS, dS, ByteArray.data_append]
theorem mkS_size {l : Bt} : (mkS l).size = l.length := by simp [mkS, ByteArray.size]
theorem dS_len {s : ByteArray} : (dS s).length = s.size := by simp only [dS, Array.length_toList]; rfl
/-! ### Numerals -/
def num (n : Int) : Bt := if n < 10 then [UInt8.ofNat (48 + n.toNat)] else [UInt8.ofNat (48 + n.toNat / 10), UInt8.ofNat (48 + n.toNat % 10)]
def dcm (n : Int) : Bt := if n < 0 then 45 :: num (-n) else num n
theorem num_dec {n : Nat} (h : n < 100) : Lib.decDigits n = num (n : Int) := by
  rw [Lib.decDigits]
  unfold num
  by_cases h1 : n < 10
  · rw [dif_pos h1, if_pos (by omega)]; rfl
  · rw [dif_neg h1, if_neg (by omega), Lib.decDigits, dif_pos (by omega)]; rfl
theorem num_len {n : Int} : 1 ≤ (num n).length ∧ (num n).length ≤ 2 := by unfold num; split <;> simp
theorem num_ne {n : Int} {c : UInt8} (h0 : 0 ≤ n) (h1 : n < 100) (hc : c < 48) : c ∉ num n := by
  have key : ∀ m : Nat, m < 100 → ∀ b ∈ num (m : Int), 48 ≤ b := by decide +kernel
  intro hm
  have := key n.toNat (by omega) c (by rw [show ((n.toNat : Nat) : Int) = n by omega]; exact hm)
  exact absurd hc (UInt8.not_lt.2 this)
/-! ### Lines of words -/
def wds (p : List Int) : Bt := p.flatMap fun x => 32 :: num x
def wR : Bt := [114, 105, 103, 104, 116]
def wU : Bt := [117, 112]
def lin (w : Bt) (p : List Int) : Bt := w ++ wds p ++ [10]
def prt (o : Ori) : Bt := lin wR o.1 ++ lin wU o.2
theorem wds_len {p : List Int} : (wds p).length ≤ 3 * p.length := by
  induction p with
  | nil => simp [wds]
  | cons x p ih =>
    have := num_len (n := x)
    simp only [wds, List.flatMap_cons, List.length_append, List.length_cons] at ih ⊢
    omega
theorem prt_len {o : Ori} (v : Valid o) : (prt o).length ≤ 400 := by
  have h1 := wds_len (p := o.1); have h2 := wds_len (p := o.2); have h3 := v.le; have h4 := v.len
  simp only [prt, lin, wR, wU, List.length_append, List.length_cons, List.length_nil]
  omega
theorem join_wds {w : Bt} {p : List Int} : Lib.join (w :: p.map num) [32] = w ++ wds p := by
  rw [Lib.join_cons]
  congr 1
  unfold Lib.joinTail wds
  rw [List.map_map, List.flatMap_def]
  rfl
/-! ### Reading -/
def atO (w : Bt) : Option Int := match Lib.atoiAll w with
  | .ok v => some v
  | _ => none
theorem atO_num {n : Int} (h0 : 0 ≤ n) (h1 : n < 100) : atO (num n) = some n := by
  have key : ∀ m : Nat, m < 100 → atO (num (m : Int)) = some (m : Int) := by decide +kernel
  have := key n.toNat (by omega)
  rwa [show ((n.toNat : Nat) : Int) = n by omega] at this
def wVal (w : Bt) : Int := (atO w).getD 0
/-- The words of a line, but the first one. -/
def wrds (l : Bt) : List Bt := (Lib.split (Lib.trimSuffix l [10]) [32]).tail
def allN (ws : List Bt) : Prop := ∀ w ∈ ws, atO w ≠ none
instance (ws : List Bt) : Decidable (allN ws) := by unfold allN; infer_instance
def lns (s : Bt) : List Bt := Lib.splitN s [10] 2
def rdO (s : Bt) : Option Ori := if ∀ l ∈ lns s, allN (wrds l) then some ((wrds ((lns s).headD [])).map wVal, if 1 < (lns s).length then (wrds (nth (lns s) 1)).map wVal else []) else none
def parR (s : Bt) : Ori × Int := if 1000 < s.length then (([], []), 8) else
  match rdO s with
  | none => (([], []), 7)
  | some o => if chkO o = 0 ∧ prt o = s then (o, 0) else (([], []), 7)
theorem index_at {a r : Bt} {c : UInt8} (h : c ∉ a) : Lib.index (a ++ c :: r) [c] = (a.length : Int) := by
  induction a with
  | nil => simp [Lib.index, List.isPrefixOf]
  | cons b a ih =>
    have hb : ¬ c = b := fun e => h (by simp [e])
    have ha := ih (fun e => h (by simp [e]))
    rw [List.cons_append, Lib.index, if_neg (by simp [List.isPrefixOf, hb]), ha, if_neg (by simp)]; simp
theorem splitK_at {a r : Bt} {c : UInt8} (h : c ∉ a) (k : Nat) : Lib.splitK [c] 0 (k + 1) (a ++ c :: r) = a :: Lib.splitK [c] 0 k r := by
  rw [Lib.splitK, index_at h, if_neg (by simp)]
  simp
theorem split_not {a : Bt} {c : UInt8} (h : c ∉ a) : Lib.split a [c] = [a] := by
  unfold Lib.split
  rw [Lib.count_one, List.count_eq_zero.2 h]
  rfl
theorem split_at {a r : Bt} {c : UInt8} (h : c ∉ a) : Lib.split (a ++ c :: r) [c] = a :: Lib.split r [c] := by
  unfold Lib.split
  rw [Lib.count_one, Lib.count_one, List.count_append, List.count_eq_zero.2 h, Nat.zero_add, List.count_cons_self, splitK_at h]
theorem split_wds {p : List Int} (h : ∀ x ∈ p, 0 ≤ x ∧ x < 100) : ∀ {w : Bt}, 32 ∉ w → Lib.split (w ++ wds p) [32] = w :: p.map num := by
  induction p with
  | nil => intro w hw; simp only [wds, List.flatMap_nil, List.append_nil, List.map_nil]; exact split_not hw
  | cons x p ih =>
    intro w hw
    have hx := h x (by simp)
    have := ih (fun y hy => h y (by simp [hy])) (w := num x) (num_ne hx.1 hx.2 (by decide))
    simp only [wds, List.flatMap_cons, List.cons_append, List.map_cons] at this ⊢
    rw [split_at hw, this]
theorem inR_mem {p : List Int} {n : Nat} (h : inR p n) {x : Int} (hx : x ∈ p) : 0 ≤ x ∧ x < n := by
  obtain ⟨i, hi, rfl⟩ := List.mem_iff_getElem.1 hx
  have := h i hi
  rwa [nth_of_get? (List.getElem?_eq_getElem hi)] at this
theorem not_wds {p : List Int} {c : UInt8} (h : ∀ x ∈ p, 0 ≤ x ∧ x < 100) (hc : c < 48) (h32 : c ≠ 32) : c ∉ wds p := by
  intro hm
  obtain ⟨x, hx, hm⟩ := List.mem_flatMap.1 hm
  rcases List.mem_cons.1 hm with e | hm
  · exact h32 e
  · exact num_ne (h x hx).1 (h x hx).2 hc hm
theorem trim_at {a : Bt} : Lib.trimSuffix (a ++ [10]) [10] = a := by
  unfold Lib.trimSuffix Lib.hasSuffix
  rw [if_pos (by rw [List.isSuffixOf_iff_suffix]; exact List.suffix_append _ _)]
  simp
theorem trim_not {a : Bt} (h : (10 : UInt8) ∉ a) : Lib.trimSuffix a [10] = a := by
  unfold Lib.trimSuffix Lib.hasSuffix
  rw [if_neg (by
    rw [List.isSuffixOf_iff_suffix]
    rintro ⟨t, ht⟩
    exact h (by rw [← ht]; simp))]
theorem rd_words {p : List Int} (h : ∀ x ∈ p, 0 ≤ x ∧ x < 100) : allN (p.map num) ∧ (p.map num).map wVal = p := by
  constructor
  · intro w hw
    obtain ⟨x, hx, rfl⟩ := List.mem_map.1 hw
    rw [atO_num (h x hx).1 (h x hx).2]
    simp
  · rw [List.map_map]
    refine (List.map_congr_left fun x hx => ?_).trans (List.map_id _)
    simp only [Function.comp, wVal, atO_num (h x hx).1 (h x hx).2]
    rfl
theorem lns_prt {o : Ori} (v : Valid o) : lns (prt o) = [wR ++ wds o.1, wU ++ wds o.2 ++ [10]] := by
  have h1 : ∀ x ∈ o.1, 0 ≤ x ∧ x < 100 := fun x hx => by have := inR_mem v.rR hx; have := v.le; omega
  have hn : (10 : UInt8) ∉ wR ++ wds o.1 := fun hm => by
    rcases List.mem_append.1 hm with h | h
    · revert h; decide
    · exact not_wds h1 (by decide) (by decide) h
  have e : prt o = (wR ++ wds o.1) ++ 10 :: (wU ++ wds o.2 ++ [10]) := by simp [prt, lin]
  unfold lns Lib.splitN
  rw [e, show min 2 (List.length (wR ++ wds o.1 ++ 10 :: (wU ++ wds o.2 ++ [10])) + 1) - 1 = 0 + 1 by simp only [List.length_append, List.length_cons]; omega, splitK_at hn]
  rfl
/-- WHAT IS PRINTED IS READ BACK. -/
theorem rdO_prt {o : Ori} (v : Valid o) : rdO (prt o) = some o := by
  have h1 : ∀ x ∈ o.1, 0 ≤ x ∧ x < 100 := fun x hx => by have := inR_mem v.rR hx; have := v.le; omega
  have h2 : ∀ x ∈ o.2, 0 ≤ x ∧ x < 100 := fun x hx => by have := inR_mem v.rU hx; have := v.le; omega
  have hn : (10 : UInt8) ∉ wR ++ wds o.1 := fun hm => by
    rcases List.mem_append.1 hm with h | h
    · revert h; decide
    · exact not_wds h1 (by decide) (by decide) h
  have e1 : wrds (wR ++ wds o.1) = o.1.map num := by unfold wrds; rw [trim_not hn, split_wds h1 (by decide)]; rfl
  have e2 : wrds (wU ++ wds o.2 ++ [10]) = o.2.map num := by unfold wrds; rw [trim_at, split_wds h2 (by decide)]; rfl
  have r1 := rd_words h1
  have r2 := rd_words h2
  unfold rdO
  rw [lns_prt v, if_pos (by
    intro l hl
    rcases List.mem_cons.1 hl with rfl | hl
    · rw [e1]; exact r1.1
    · rw [List.mem_singleton] at hl; subst hl; rw [e2]; exact r2.1)]
  simp only [List.headD_cons, nth, List.getD_cons_succ, List.getD_cons_zero, List.length_cons, List.length_nil]
  rw [if_pos (by omega), e1, e2, r1.2, r2.2]
theorem parR_prt {o : Ori} (v : Valid o) : parR (prt o) = (o, 0) := by
  have := prt_len v
  unfold parR
  rw [if_neg (by omega), rdO_prt v]
  show (if chkO o = 0 ∧ prt o = prt o then (o, (0 : Int)) else _) = _
  rw [if_pos ⟨chkO_of v, rfl⟩]
theorem parR_ok {s : Bt} (h : (parR s).2 = 0) : chkO (parR s).1 = 0 ∧ prt (parR s).1 = s ∧ s.length ≤ 1000 := by
  unfold parR at h ⊢
  by_cases h1 : 1000 < s.length
  · rw [if_pos h1] at h; cases h
  rw [if_neg h1] at h ⊢
  cases hr : rdO s with
  | none => rw [hr] at h; cases h
  | some o =>
    rw [hr] at h
    simp only at h ⊢
    by_cases h2 : chkO o = 0 ∧ prt o = s
    · rw [if_pos h2]; exact ⟨h2.1, h2.2, by omega⟩
    · rw [if_neg h2] at h; cases h
theorem parR_bad {s : Bt} (h : (parR s).2 ≠ 0) : parR s = (([], []), if 1000 < s.length then 8 else 7) := by
  unfold parR at h ⊢
  by_cases h1 : 1000 < s.length
  · rw [if_pos h1, if_pos h1]
  rw [if_neg h1] at h ⊢
  rw [if_neg h1]
  cases hr : rdO s with
  | none => rfl
  | some o =>
    rw [hr] at h
    simp only at h ⊢
    by_cases h2 : chkO o = 0 ∧ prt o = s
    · rw [if_pos h2] at h; exact absurd rfl h
    · rw [if_neg h2]
end Go.Fl

/- Contracts of the library's over strings, told in ours. -/
namespace Go.Fl
open Go Go.RowKit
theorem Im.none {J : JV} {w : World} (him : Im J w) (o : Nat) : J w.heap.size o = none := by
  cases h : J w.heap.size o with
  | none => rfl
  | some v => exact absurd (World.block_lt_of_cell? _ _ (him _ _ _ h)) (Nat.lt_irrefl _)
/-- What comes back is a value; nothing old has turned. -/
theorem retR_val {w w' : World} {J : JV} {k : Know} {r : Value} (him : Im J w) (hb : Below w.heap.size w w') (hk : k ⟨J, noM⟩ r) : RetR w J k (.returned r) w' := by
  refine ⟨r, J, rfl, hb, JV.le_refl _, fun _ _ _ => rfl, fun b o v hv => ?_, hk⟩
  have h1 := him b o v hv
  have hlt := World.block_lt_of_cell? _ _ h1
  rw [World.cell?_of_block (w := w) (hb.block b hlt)]
  exact h1
/-- What comes back is a row of strings in a new block. -/
theorem retR_row {w : World} {J : JV} (him : Im J w) {cs : Array Value} {t : TypeId} {xs : List ByteArray} {cap : Nat} (hc : ∀ (i : Nat) (x : ByteArray), xs[i]? = some x → cs[i]? = some (Value.string x)) (hl : xs.length ≤ lenMax) (hcap : xs.length ≤ cap) :
    RetR w J (kRd (eL eStr) xs) (.returned (.slice (some ⟨w.heap.size, 0, none⟩) xs.length cap)) (w.alloc (.cells cs t)) := by
  refine ⟨_, J.with w.heap.size cs, rfl, Below.alloc (Below.refl _ _) (Nat.le_refl _) _, JV.le_with him.none, fun b o hb => ?_, fun b o v hv => ?_, ?_⟩
  · unfold JV.with; rw [if_neg (by omega)]
  · unfold JV.with at hv
    by_cases hb : b = w.heap.size
    · rw [if_pos hb] at hv
      subst hb
      rw [World.cell?_alloc_new w cs t o]; exact hv
    · rw [if_neg hb] at hv
      have h1 := him b o v hv
      rw [World.cell?_alloc_lt w _ ⟨b, o, none⟩ (World.block_lt_of_cell? _ _ h1)]; exact h1
  · refine ⟨_, ⟨some ⟨w.heap.size, 0, none⟩, cap, rfl, ⟨hl, hcap⟩, .inr ⟨_, 0, rfl, fun i x hx => ⟨[Value.string x], rfl, fun j v hv => ?_⟩⟩⟩, rfl⟩
    cases j with
    | succ j => simp at hv
    | zero =>
      simp at hv
      subst hv
      show (J.with w.heap.size cs) w.heap.size (0 + i * 1 + 0) = _
      unfold JV.with
      rw [if_pos rfl, show 0 + i * 1 + 0 = i by omega]
      exact hc i x hx
theorem cellsOf_at {xs : List ByteArray} {n i : Nat} {x : ByteArray} (h : xs[i]? = some x) : (Lib.cellsOf xs n)[i]? = some (Value.string x) := by
  have hi := (List.getElem?_eq_some_iff.1 h).1
  unfold Lib.cellsOf
  rw [List.getElem?_toArray, List.getElem?_append_left (by simpa using hi), List.getElem?_map, h]
  rfl
theorem map_dS {xs : List ByteArray} {ys : List Bt} (h : xs.map (fun x => x.data.toList) = ys) : xs = ys.map mkS := by
  subst h
  rw [List.map_map]
  exact ((List.map_congr_left fun _ _ => rfl).trans (List.map_id _)).symm
def atV (l : Bt) : Int := match Lib.atoiAll l with
  | .ok v => v
  | .range => Lib.atoiSat l
  | _ => 0
theorem atV_ok {l : Bt} (h : atO l ≠ none) : atV l = wVal l := by
  unfold wVal atV atO at *
  cases hh : Lib.atoiAll l with
  | ok v => rfl
  | range => rw [hh] at h; exact absurd rfl h
  | _ => rw [hh] at h; exact absurd rfl h
end Go.Fl

/-
  DERIVED: THE SHELF's CONTRACTS AT THIS DUMP, IN PLAIN WORDS (tools/lay-plain.mjs out of 'YtlkipjphohdilaaGreatDoorTxtRaw.lean', which tools/lay-shelf.mjs wrote): THE SAME DECLARATIONS UNDER THE SAME NAMES: 'import', 'namespace', 'open', 'def', 'theorem' AND NOTHING ELSE: no command of the shelf's: FOR A HAND-IN. Each laying: the table of numbers ('.._ren') and one theorem, a field a fact of the dump's own or the kernel's comparison; each contract: ONE APPLICATION.
-/
namespace Go.Proofs
open Go.Shelf
def Tryz.laysSN_ren : Go.Shelf.Ren := ⟨fun | 147 => 23 | 221 => 49 | 268 => 63 | 138 => 64 | 143 => 65 | 195 => 91 | 197 => 92 | 218 => 93 | 219 => 94 | 260 => 111 | 217 => 112 | 225 => 113 | 224 => 114 | 267 => 115 | 266 => 130 | 314 => 131 | n => n, fun | 9 => 9 | 3 => 3 | 31 => 45 | 4 => 4 | 0 => 0 | 105 => 126 | 21 => 21 | 5 => 5 | 46 => 91 | 119 => 163 | 139 => 166 | 138 => 165 | 146 => 136 | 51 => 115 | n => n, fun | 1 => 3 | 3 => 4 | 4 => 5 | n => n⟩
theorem Tryz.laysSN : Go.Proofs.LaysM.n147 Tryz.prog Tryz.laysSN_ren := {
  mixed := by kernel_rfl
  f138 := Tryz.func64.trans (congrArg some (by kernel_rfl))
  f143 := Tryz.func65.trans (congrArg some (by kernel_rfl))
  f147 := Tryz.func23.trans (congrArg some (by kernel_rfl))
  f195 := Tryz.func91.trans (congrArg some (by kernel_rfl))
  f197 := Tryz.func92.trans (congrArg some (by kernel_rfl))
  f217 := Tryz.func112.trans (congrArg some (by kernel_rfl))
  f218 := Tryz.func93.trans (congrArg some (by kernel_rfl))
  f219 := Tryz.func94.trans (congrArg some (by kernel_rfl))
  f221 := Tryz.func49.trans (congrArg some (by kernel_rfl))
  f224 := Tryz.func114.trans (congrArg some (by kernel_rfl))
  f225 := Tryz.func113.trans (congrArg some (by kernel_rfl))
  f260 := Tryz.func111.trans (congrArg some (by kernel_rfl))
  f266 := Tryz.func130.trans (congrArg some (by kernel_rfl))
  f267 := Tryz.func115.trans (congrArg some (by kernel_rfl))
  f268 := Tryz.func63.trans (congrArg some (by kernel_rfl))
  f314 := Tryz.func131.trans (congrArg some (by kernel_rfl))
  t0 := Tryz.underlying0
  a0 := Tryz.isAgg0
  z0 := Tryz.sizeOf0
  v0 := Tryz.zeroValue0
  t3 := Tryz.underlying3
  a3 := Tryz.isAgg3
  z3 := Tryz.sizeOf3
  v3 := Tryz.zeroValue3
  t4 := Tryz.underlying4
  a4 := Tryz.isAgg4
  z4 := Tryz.sizeOf4
  v4 := Tryz.zeroValue4
  t5 := Tryz.underlying5
  a5 := Tryz.isAgg5
  z5 := Tryz.sizeOf5
  v5 := Tryz.zeroValue5
  t9 := Tryz.underlying9
  a9 := Tryz.isAgg9
  z9 := Tryz.sizeOf9
  v9 := Tryz.zeroValue9
  t21 := Tryz.underlying21
  a21 := Tryz.isAgg21
  z21 := Tryz.sizeOf21
  v21 := Tryz.zeroValue21
  t31 := Tryz.underlying45
  a31 := Tryz.isAgg45
  z31 := Tryz.sizeOf45
  v31 := Tryz.zeroValue45
  t46 := Tryz.underlying91
  a46 := Tryz.isAgg91
  z46 := Tryz.sizeOf91
  v46 := Tryz.zeroValue91
  t51 := Tryz.underlying115
  a51 := Tryz.isAgg115
  z51 := Tryz.sizeOf115
  v51 := Tryz.zeroValue115
  t105 := Tryz.underlying126
  a105 := Tryz.isAgg126
  z105 := Tryz.sizeOf126
  v105 := Tryz.zeroValue126
  t119 := Tryz.underlying163
  a119 := Tryz.isAgg163
  z119 := Tryz.sizeOf163
  t138 := Tryz.underlying165
  a138 := Tryz.isAgg165
  z138 := Tryz.sizeOf165
  v138 := Tryz.zeroValue165
  t139 := Tryz.underlying166
  a139 := Tryz.isAgg166
  z139 := Tryz.sizeOf166
  v139 := Tryz.zeroValue166
  t146 := Tryz.underlying136
  a146 := Tryz.isAgg136
  z146 := Tryz.sizeOf136
  v146 := Tryz.zeroValue136
  g1 := by kernel_rfl
  g3 := by kernel_rfl
  g4 := by kernel_rfl
  i0 := by kernel_rfl
  i3 := by kernel_rfl
  i4 := by kernel_rfl
  i5 := by kernel_rfl
  i9 := by kernel_rfl
  i21 := by kernel_rfl
  i31 := by kernel_rfl
  i46 := by kernel_rfl
  i51 := by kernel_rfl
  i105 := by kernel_rfl
  i138 := by kernel_rfl
  i139 := by kernel_rfl
  i146 := by kernel_rfl
  m1 := by kernel_rfl
  s1_3 := fun w h => Go.Proofs.cell_of_shapedOpen_int (zero := #[.int .i64 0]) (t := 3) h (of_decide_eq_true (by kernel_rfl)) (by kernel_rfl) rfl (by kernel_rfl) (by kernel_rfl) Tryz.underlying3
  m3 := by kernel_rfl
  m4 := by kernel_rfl }
def Tryz.laysS_ren : Go.Shelf.Ren := ⟨fun | 146 => 24 | 221 => 49 | 268 => 63 | 138 => 64 | 143 => 65 | 195 => 91 | 197 => 92 | 218 => 93 | 219 => 94 | 260 => 111 | 217 => 112 | 225 => 113 | 224 => 114 | 267 => 115 | 266 => 130 | 314 => 131 | n => n, fun | 9 => 9 | 31 => 45 | 3 => 3 | 4 => 4 | 0 => 0 | 105 => 126 | 21 => 21 | 5 => 5 | 46 => 91 | 119 => 163 | 139 => 166 | 138 => 165 | 146 => 136 | 51 => 115 | n => n, fun | 1 => 3 | 3 => 4 | 4 => 5 | n => n⟩
theorem Tryz.laysS : Go.Proofs.LaysM.n146 Tryz.prog Tryz.laysS_ren := {
  mixed := by kernel_rfl
  f138 := Tryz.func64.trans (congrArg some (by kernel_rfl))
  f143 := Tryz.func65.trans (congrArg some (by kernel_rfl))
  f146 := Tryz.func24.trans (congrArg some (by kernel_rfl))
  f195 := Tryz.func91.trans (congrArg some (by kernel_rfl))
  f197 := Tryz.func92.trans (congrArg some (by kernel_rfl))
  f217 := Tryz.func112.trans (congrArg some (by kernel_rfl))
  f218 := Tryz.func93.trans (congrArg some (by kernel_rfl))
  f219 := Tryz.func94.trans (congrArg some (by kernel_rfl))
  f221 := Tryz.func49.trans (congrArg some (by kernel_rfl))
  f224 := Tryz.func114.trans (congrArg some (by kernel_rfl))
  f225 := Tryz.func113.trans (congrArg some (by kernel_rfl))
  f260 := Tryz.func111.trans (congrArg some (by kernel_rfl))
  f266 := Tryz.func130.trans (congrArg some (by kernel_rfl))
  f267 := Tryz.func115.trans (congrArg some (by kernel_rfl))
  f268 := Tryz.func63.trans (congrArg some (by kernel_rfl))
  f314 := Tryz.func131.trans (congrArg some (by kernel_rfl))
  t0 := Tryz.underlying0
  a0 := Tryz.isAgg0
  z0 := Tryz.sizeOf0
  v0 := Tryz.zeroValue0
  t3 := Tryz.underlying3
  a3 := Tryz.isAgg3
  z3 := Tryz.sizeOf3
  v3 := Tryz.zeroValue3
  t4 := Tryz.underlying4
  a4 := Tryz.isAgg4
  z4 := Tryz.sizeOf4
  v4 := Tryz.zeroValue4
  t5 := Tryz.underlying5
  a5 := Tryz.isAgg5
  z5 := Tryz.sizeOf5
  v5 := Tryz.zeroValue5
  t9 := Tryz.underlying9
  a9 := Tryz.isAgg9
  z9 := Tryz.sizeOf9
  v9 := Tryz.zeroValue9
  t21 := Tryz.underlying21
  a21 := Tryz.isAgg21
  z21 := Tryz.sizeOf21
  v21 := Tryz.zeroValue21
  t31 := Tryz.underlying45
  a31 := Tryz.isAgg45
  z31 := Tryz.sizeOf45
  v31 := Tryz.zeroValue45
  t46 := Tryz.underlying91
  a46 := Tryz.isAgg91
  z46 := Tryz.sizeOf91
  v46 := Tryz.zeroValue91
  t51 := Tryz.underlying115
  a51 := Tryz.isAgg115
  z51 := Tryz.sizeOf115
  v51 := Tryz.zeroValue115
  t105 := Tryz.underlying126
  a105 := Tryz.isAgg126
  z105 := Tryz.sizeOf126
  v105 := Tryz.zeroValue126
  t119 := Tryz.underlying163
  a119 := Tryz.isAgg163
  z119 := Tryz.sizeOf163
  t138 := Tryz.underlying165
  a138 := Tryz.isAgg165
  z138 := Tryz.sizeOf165
  v138 := Tryz.zeroValue165
  t139 := Tryz.underlying166
  a139 := Tryz.isAgg166
  z139 := Tryz.sizeOf166
  v139 := Tryz.zeroValue166
  t146 := Tryz.underlying136
  a146 := Tryz.isAgg136
  z146 := Tryz.sizeOf136
  v146 := Tryz.zeroValue136
  g1 := by kernel_rfl
  g3 := by kernel_rfl
  g4 := by kernel_rfl
  i0 := by kernel_rfl
  i3 := by kernel_rfl
  i4 := by kernel_rfl
  i5 := by kernel_rfl
  i9 := by kernel_rfl
  i21 := by kernel_rfl
  i31 := by kernel_rfl
  i46 := by kernel_rfl
  i51 := by kernel_rfl
  i105 := by kernel_rfl
  i138 := by kernel_rfl
  i139 := by kernel_rfl
  i146 := by kernel_rfl
  m1 := by kernel_rfl
  s1_3 := fun w h => Go.Proofs.cell_of_shapedOpen_int (zero := #[.int .i64 0]) (t := 3) h (of_decide_eq_true (by kernel_rfl)) (by kernel_rfl) rfl (by kernel_rfl) (by kernel_rfl) Tryz.underlying3
  m3 := by kernel_rfl
  m4 := by kernel_rfl }
def Tryz.laysAt_ren : Go.Shelf.Ren := ⟨fun | 172 => 26 | 244 => 51 | 245 => 52 | 247 => 67 | 279 => 68 | 280 => 69 | 281 => 70 | 282 => 71 | 287 => 95 | 316 => 96 | 171 => 20 | 205 => 97 | 321 => 116 | 322 => 117 | 243 => 45 | 246 => 60 | 283 => 85 | 284 => 86 | 285 => 87 | 286 => 88 | 129 => 84 | 317 => 107 | 318 => 108 | 319 => 109 | 320 => 110 | 337 => 128 | 338 => 129 | n => n, fun | 9 => 9 | 3 => 3 | 75 => 54 | 76 => 55 | 4 => 4 | 5 => 5 | 167 => 98 | 37 => 74 | 0 => 0 | 85 => 99 | 2 => 2 | 168 => 101 | 53 => 117 | 175 => 129 | 46 => 91 | 210 => 133 | 127 => 94 | 145 => 153 | 143 => 151 | 21 => 21 | 171 => 118 | 173 => 120 | 212 => 148 | 51 => 115 | 20 => 20 | 213 => 149 | 232 => 170 | 233 => 171 | 80 => 78 | n => n, fun | 15 => 0 | 16 => 1 | 17 => 2 | 18 => 6 | 19 => 7 | n => n⟩
theorem Tryz.laysAt : Go.Proofs.LaysC.n172 Tryz.prog Tryz.laysAt_ren := {
  mixed := by kernel_rfl
  f129 := Tryz.func84.trans (congrArg some (by kernel_rfl))
  f171 := Tryz.func20.trans (congrArg some (by kernel_rfl))
  f172 := Tryz.func26.trans (congrArg some (by kernel_rfl))
  f205 := Tryz.func97.trans (congrArg some (by kernel_rfl))
  f243 := Tryz.func45.trans (congrArg some (by kernel_rfl))
  f244 := Tryz.func51.trans (congrArg some (by kernel_rfl))
  f245 := Tryz.func52.trans (congrArg some (by kernel_rfl))
  f246 := Tryz.func60.trans (congrArg some (by kernel_rfl))
  f247 := Tryz.func67.trans (congrArg some (by kernel_rfl))
  f279 := Tryz.func68.trans (congrArg some (by kernel_rfl))
  f280 := Tryz.func69.trans (congrArg some (by kernel_rfl))
  f281 := Tryz.func70.trans (congrArg some (by kernel_rfl))
  f282 := Tryz.func71.trans (congrArg some (by kernel_rfl))
  f283 := Tryz.func85.trans (congrArg some (by kernel_rfl))
  f284 := Tryz.func86.trans (congrArg some (by kernel_rfl))
  f285 := Tryz.func87.trans (congrArg some (by kernel_rfl))
  f286 := Tryz.func88.trans (congrArg some (by kernel_rfl))
  f287 := Tryz.func95.trans (congrArg some (by kernel_rfl))
  f316 := Tryz.func96.trans (congrArg some (by kernel_rfl))
  f317 := Tryz.func107.trans (congrArg some (by kernel_rfl))
  f318 := Tryz.func108.trans (congrArg some (by kernel_rfl))
  f319 := Tryz.func109.trans (congrArg some (by kernel_rfl))
  f320 := Tryz.func110.trans (congrArg some (by kernel_rfl))
  f321 := Tryz.func116.trans (congrArg some (by kernel_rfl))
  f322 := Tryz.func117.trans (congrArg some (by kernel_rfl))
  f337 := Tryz.func128.trans (congrArg some (by kernel_rfl))
  f338 := Tryz.func129.trans (congrArg some (by kernel_rfl))
  t0 := Tryz.underlying0
  a0 := Tryz.isAgg0
  z0 := Tryz.sizeOf0
  v0 := Tryz.zeroValue0
  t2 := Tryz.underlying2
  a2 := Tryz.isAgg2
  z2 := Tryz.sizeOf2
  v2 := Tryz.zeroValue2
  t3 := Tryz.underlying3
  a3 := Tryz.isAgg3
  z3 := Tryz.sizeOf3
  v3 := Tryz.zeroValue3
  t4 := Tryz.underlying4
  a4 := Tryz.isAgg4
  z4 := Tryz.sizeOf4
  v4 := Tryz.zeroValue4
  t5 := Tryz.underlying5
  a5 := Tryz.isAgg5
  z5 := Tryz.sizeOf5
  v5 := Tryz.zeroValue5
  t9 := Tryz.underlying9
  a9 := Tryz.isAgg9
  z9 := Tryz.sizeOf9
  v9 := Tryz.zeroValue9
  t20 := Tryz.underlying20
  a20 := Tryz.isAgg20
  z20 := Tryz.sizeOf20
  v20 := Tryz.zeroValue20
  t21 := Tryz.underlying21
  a21 := Tryz.isAgg21
  z21 := Tryz.sizeOf21
  v21 := Tryz.zeroValue21
  t37 := Tryz.underlying74
  a37 := Tryz.isAgg74
  z37 := Tryz.sizeOf74
  v37 := Tryz.zeroValue74
  t46 := Tryz.underlying91
  a46 := Tryz.isAgg91
  z46 := Tryz.sizeOf91
  v46 := Tryz.zeroValue91
  t51 := Tryz.underlying115
  a51 := Tryz.isAgg115
  z51 := Tryz.sizeOf115
  v51 := Tryz.zeroValue115
  t53 := Tryz.underlying117
  a53 := Tryz.isAgg117
  z53 := Tryz.sizeOf117
  v53 := Tryz.zeroValue117
  t75 := Tryz.underlying54
  a75 := Tryz.isAgg54
  z75 := Tryz.sizeOf54
  v75 := Tryz.zeroValue54
  t76 := Tryz.underlying55
  a76 := Tryz.isAgg55
  z76 := Tryz.sizeOf55
  v76 := Tryz.zeroValue55
  t85 := Tryz.underlying99
  a85 := Tryz.isAgg99
  z85 := Tryz.sizeOf99
  v85 := Tryz.zeroValue99
  t127 := Tryz.underlying94
  a127 := Tryz.isAgg94
  z127 := Tryz.sizeOf94
  v127 := Tryz.zeroValue94
  t143 := Tryz.underlying151
  a143 := Tryz.isAgg151
  z143 := Tryz.sizeOf151
  v143 := Tryz.zeroValue151
  t145 := Tryz.underlying153
  a145 := Tryz.isAgg153
  z145 := Tryz.sizeOf153
  v145 := Tryz.zeroValue153
  t167 := Tryz.underlying98
  a167 := Tryz.isAgg98
  z167 := Tryz.sizeOf98
  v167 := Tryz.zeroValue98
  t168 := Tryz.underlying101
  a168 := Tryz.isAgg101
  z168 := Tryz.sizeOf101
  v168 := Tryz.zeroValue101
  t171 := Tryz.underlying118
  a171 := Tryz.isAgg118
  z171 := Tryz.sizeOf118
  v171 := Tryz.zeroValue118
  t173 := Tryz.underlying120
  a173 := Tryz.isAgg120
  z173 := Tryz.sizeOf120
  v173 := Tryz.zeroValue120
  t175 := Tryz.underlying129
  a175 := Tryz.isAgg129
  z175 := Tryz.sizeOf129
  v175 := Tryz.zeroValue129
  t210 := Tryz.underlying133
  a210 := Tryz.isAgg133
  z210 := Tryz.sizeOf133
  v210 := Tryz.zeroValue133
  t212 := Tryz.underlying148
  a212 := Tryz.isAgg148
  z212 := Tryz.sizeOf148
  v212 := Tryz.zeroValue148
  t213 := Tryz.underlying149
  a213 := Tryz.isAgg149
  z213 := Tryz.sizeOf149
  t232 := Tryz.underlying170
  a232 := Tryz.isAgg170
  z232 := Tryz.sizeOf170
  v232 := Tryz.zeroValue170
  t233 := Tryz.underlying171
  a233 := Tryz.isAgg171
  z233 := Tryz.sizeOf171
  v233 := Tryz.zeroValue171
  g15 := by kernel_rfl
  g16 := by kernel_rfl
  g17 := by kernel_rfl
  g18 := by kernel_rfl
  g19 := by kernel_rfl
  t80 := Tryz.underlying78
  a80 := Tryz.isAgg78
  z80 := Tryz.sizeOf78
  v80 := Tryz.zeroValue78
  i0 := by kernel_rfl
  i2 := by kernel_rfl
  i3 := by kernel_rfl
  i4 := by kernel_rfl
  i5 := by kernel_rfl
  i9 := by kernel_rfl
  i20 := by kernel_rfl
  i21 := by kernel_rfl
  i37 := by kernel_rfl
  i46 := by kernel_rfl
  i51 := by kernel_rfl
  i53 := by kernel_rfl
  i75 := by kernel_rfl
  i76 := by kernel_rfl
  i80 := by kernel_rfl
  i85 := by kernel_rfl
  i127 := by kernel_rfl
  i143 := by kernel_rfl
  i145 := by kernel_rfl
  i167 := by kernel_rfl
  i168 := by kernel_rfl
  i171 := by kernel_rfl
  i173 := by kernel_rfl
  i175 := by kernel_rfl
  i210 := by kernel_rfl
  i212 := by kernel_rfl
  i232 := by kernel_rfl
  i233 := by kernel_rfl
  m15 := by kernel_rfl
  m16 := by kernel_rfl
  m17 := by kernel_rfl
  m18 := by kernel_rfl
  m19 := by kernel_rfl
  c0 := by kernel_rfl
  c2 := by kernel_rfl
  c3 := by kernel_rfl
  c4 := by kernel_rfl
  c5 := by kernel_rfl
  c9 := by kernel_rfl
  c20 := by kernel_rfl
  c21 := by kernel_rfl
  c37 := by kernel_rfl
  c46 := by kernel_rfl
  c51 := by kernel_rfl
  c53 := by kernel_rfl
  c75 := by kernel_rfl
  c76 := by kernel_rfl
  c80 := by kernel_rfl
  c85 := by kernel_rfl
  c127 := by kernel_rfl
  c143 := by kernel_rfl
  c145 := by kernel_rfl
  c167 := by kernel_rfl
  c168 := by kernel_rfl
  c171 := by kernel_rfl
  c173 := by kernel_rfl
  c175 := by kernel_rfl
  c210 := by kernel_rfl
  c212 := by kernel_rfl
  c213 := by kernel_rfl
  c232 := by kernel_rfl
  c233 := by kernel_rfl }
def Tryz.laysIt_ren : Go.Shelf.Ren := ⟨fun | 171 => 20 | 243 => 45 | 246 => 60 | 283 => 85 | 284 => 86 | 285 => 87 | 286 => 88 | 129 => 84 | 317 => 107 | 318 => 108 | 319 => 109 | 320 => 110 | 337 => 128 | 338 => 129 | n => n, fun | 3 => 3 | 9 => 9 | 2 => 2 | 4 => 4 | 171 => 118 | 0 => 0 | 53 => 117 | 37 => 74 | 5 => 5 | 173 => 120 | 212 => 148 | 51 => 115 | 20 => 20 | 213 => 149 | 46 => 91 | 232 => 170 | 233 => 171 | n => n, fun | 17 => 2 | 18 => 6 | 19 => 7 | n => n⟩
theorem Tryz.laysIt : Go.Proofs.Lays.n171 Tryz.prog Tryz.laysIt_ren := {
  mixed := by kernel_rfl
  f129 := Tryz.func84.trans (congrArg some (by kernel_rfl))
  f171 := Tryz.func20.trans (congrArg some (by kernel_rfl))
  f243 := Tryz.func45.trans (congrArg some (by kernel_rfl))
  f246 := Tryz.func60.trans (congrArg some (by kernel_rfl))
  f283 := Tryz.func85.trans (congrArg some (by kernel_rfl))
  f284 := Tryz.func86.trans (congrArg some (by kernel_rfl))
  f285 := Tryz.func87.trans (congrArg some (by kernel_rfl))
  f286 := Tryz.func88.trans (congrArg some (by kernel_rfl))
  f317 := Tryz.func107.trans (congrArg some (by kernel_rfl))
  f318 := Tryz.func108.trans (congrArg some (by kernel_rfl))
  f319 := Tryz.func109.trans (congrArg some (by kernel_rfl))
  f320 := Tryz.func110.trans (congrArg some (by kernel_rfl))
  f337 := Tryz.func128.trans (congrArg some (by kernel_rfl))
  f338 := Tryz.func129.trans (congrArg some (by kernel_rfl))
  t0 := Tryz.underlying0
  a0 := Tryz.isAgg0
  z0 := Tryz.sizeOf0
  v0 := Tryz.zeroValue0
  t2 := Tryz.underlying2
  a2 := Tryz.isAgg2
  z2 := Tryz.sizeOf2
  v2 := Tryz.zeroValue2
  t3 := Tryz.underlying3
  a3 := Tryz.isAgg3
  z3 := Tryz.sizeOf3
  v3 := Tryz.zeroValue3
  t4 := Tryz.underlying4
  a4 := Tryz.isAgg4
  z4 := Tryz.sizeOf4
  v4 := Tryz.zeroValue4
  t5 := Tryz.underlying5
  a5 := Tryz.isAgg5
  z5 := Tryz.sizeOf5
  v5 := Tryz.zeroValue5
  t9 := Tryz.underlying9
  a9 := Tryz.isAgg9
  z9 := Tryz.sizeOf9
  v9 := Tryz.zeroValue9
  t20 := Tryz.underlying20
  a20 := Tryz.isAgg20
  z20 := Tryz.sizeOf20
  v20 := Tryz.zeroValue20
  t37 := Tryz.underlying74
  a37 := Tryz.isAgg74
  z37 := Tryz.sizeOf74
  v37 := Tryz.zeroValue74
  t46 := Tryz.underlying91
  a46 := Tryz.isAgg91
  z46 := Tryz.sizeOf91
  v46 := Tryz.zeroValue91
  t51 := Tryz.underlying115
  a51 := Tryz.isAgg115
  z51 := Tryz.sizeOf115
  v51 := Tryz.zeroValue115
  t53 := Tryz.underlying117
  a53 := Tryz.isAgg117
  z53 := Tryz.sizeOf117
  v53 := Tryz.zeroValue117
  t171 := Tryz.underlying118
  a171 := Tryz.isAgg118
  z171 := Tryz.sizeOf118
  v171 := Tryz.zeroValue118
  t173 := Tryz.underlying120
  a173 := Tryz.isAgg120
  z173 := Tryz.sizeOf120
  v173 := Tryz.zeroValue120
  t212 := Tryz.underlying148
  a212 := Tryz.isAgg148
  z212 := Tryz.sizeOf148
  v212 := Tryz.zeroValue148
  t213 := Tryz.underlying149
  a213 := Tryz.isAgg149
  z213 := Tryz.sizeOf149
  t232 := Tryz.underlying170
  a232 := Tryz.isAgg170
  z232 := Tryz.sizeOf170
  v232 := Tryz.zeroValue170
  t233 := Tryz.underlying171
  a233 := Tryz.isAgg171
  z233 := Tryz.sizeOf171
  v233 := Tryz.zeroValue171
  g17 := by kernel_rfl
  g18 := by kernel_rfl
  g19 := by kernel_rfl }
def Tryz.laysTS_ren : Go.Shelf.Ren := ⟨fun | 102 => 25 | 209 => 50 | 207 => 66 | n => n, fun | 9 => 9 | 4 => 4 | 3 => 3 | n => n, fun | n => n⟩
theorem Tryz.laysTS : Go.Proofs.Lays.n102 Tryz.prog Tryz.laysTS_ren := {
  mixed := by kernel_rfl
  f102 := Tryz.func25.trans (congrArg some (by kernel_rfl))
  f207 := Tryz.func66.trans (congrArg some (by kernel_rfl))
  f209 := Tryz.func50.trans (congrArg some (by kernel_rfl))
  t3 := Tryz.underlying3
  a3 := Tryz.isAgg3
  z3 := Tryz.sizeOf3
  v3 := Tryz.zeroValue3
  t4 := Tryz.underlying4
  a4 := Tryz.isAgg4
  z4 := Tryz.sizeOf4
  v4 := Tryz.zeroValue4
  t9 := Tryz.underlying9
  a9 := Tryz.isAgg9
  z9 := Tryz.sizeOf9
  v9 := Tryz.zeroValue9 }
def Tryz.laysJo_ren : Go.Shelf.Ren := ⟨fun | 156 => 21 | 165 => 46 | 166 => 47 | 169 => 48 | 240 => 61 | 241 => 62 | 276 => 89 | 277 => 90 | n => n, fun | 31 => 45 | 9 => 9 | 3 => 3 | 4 => 4 | 0 => 0 | 20 => 20 | 72 => 76 | 76 => 55 | 70 => 73 | 37 => 74 | 75 => 54 | 127 => 94 | 164 => 122 | 5 => 5 | 80 => 78 | n => n, fun | n => n⟩
theorem Tryz.laysJo : Go.Proofs.Lays.n156 Tryz.prog Tryz.laysJo_ren := {
  mixed := by kernel_rfl
  f156 := Tryz.func21.trans (congrArg some (by kernel_rfl))
  f165 := Tryz.func46.trans (congrArg some (by kernel_rfl))
  f166 := Tryz.func47.trans (congrArg some (by kernel_rfl))
  f169 := Tryz.func48.trans (congrArg some (by kernel_rfl))
  f240 := Tryz.func61.trans (congrArg some (by kernel_rfl))
  f241 := Tryz.func62.trans (congrArg some (by kernel_rfl))
  f276 := Tryz.func89.trans (congrArg some (by kernel_rfl))
  f277 := Tryz.func90.trans (congrArg some (by kernel_rfl))
  t0 := Tryz.underlying0
  a0 := Tryz.isAgg0
  z0 := Tryz.sizeOf0
  v0 := Tryz.zeroValue0
  t3 := Tryz.underlying3
  a3 := Tryz.isAgg3
  z3 := Tryz.sizeOf3
  v3 := Tryz.zeroValue3
  t4 := Tryz.underlying4
  a4 := Tryz.isAgg4
  z4 := Tryz.sizeOf4
  v4 := Tryz.zeroValue4
  t9 := Tryz.underlying9
  a9 := Tryz.isAgg9
  z9 := Tryz.sizeOf9
  v9 := Tryz.zeroValue9
  t20 := Tryz.underlying20
  a20 := Tryz.isAgg20
  z20 := Tryz.sizeOf20
  v20 := Tryz.zeroValue20
  t31 := Tryz.underlying45
  a31 := Tryz.isAgg45
  z31 := Tryz.sizeOf45
  v31 := Tryz.zeroValue45
  t37 := Tryz.underlying74
  a37 := Tryz.isAgg74
  z37 := Tryz.sizeOf74
  v37 := Tryz.zeroValue74
  t70 := Tryz.underlying73
  a70 := Tryz.isAgg73
  z70 := Tryz.sizeOf73
  v70 := Tryz.zeroValue73
  t72 := Tryz.underlying76
  a72 := Tryz.isAgg76
  z72 := Tryz.sizeOf76
  v72 := Tryz.zeroValue76
  t75 := Tryz.underlying54
  a75 := Tryz.isAgg54
  z75 := Tryz.sizeOf54
  v75 := Tryz.zeroValue54
  t76 := Tryz.underlying55
  a76 := Tryz.isAgg55
  z76 := Tryz.sizeOf55
  v76 := Tryz.zeroValue55
  t127 := Tryz.underlying94
  a127 := Tryz.isAgg94
  z127 := Tryz.sizeOf94
  v127 := Tryz.zeroValue94
  t164 := Tryz.underlying122
  a164 := Tryz.isAgg122
  z164 := Tryz.sizeOf122
  v164 := Tryz.zeroValue122 }
end Go.Proofs

/- Contracts of the library: strings.SplitN, Split, TrimSuffix, Join, strconv.Itoa, Atoi. -/
namespace Go.Fl
open Go Go.Proofs


/-- What the package variables hold: bytealg.MaxLen an int, strconv.ErrSyntax and ErrRange an error. -/
def GV (J : JV) : Prop := (∃ m, J (Tryz.laysS_ren.g 1) 0 = some (.int .i64 m)) ∧ (∃ t p, J (Tryz.laysAt_ren.g 15) 0 = some (.iface t p)) ∧ (∃ t p, J (Tryz.laysAt_ren.g 16) 0 = some (.iface t p))
instance : JUp GV := ⟨fun h ⟨⟨m, h1⟩, ⟨t, p, h2⟩, ⟨t', p', h3⟩⟩ => ⟨⟨m, h _ _ _ h1⟩, ⟨t, p, h _ _ _ h2⟩, ⟨t', p', h _ _ _ h3⟩⟩⟩
def bSN (s : ByteArray) : List ByteArray := Lib.splitB (mkS [10]) 0 (min 2 (s.size + 1) - 1) s
theorem bSN_eq {s : ByteArray} : bSN s = (lns (dS s)).map mkS := by
  refine map_dS ?_
  unfold bSN
  rw [Lib.splitB_data, ← dS_len]
  rfl
theorem ct_SplitN (s : ByteArray) (hs : s.size ≤ 1000) : CtG GV Tryz.prog 23 [kS s, kS (mkS [10]), kI 2] (kRd (eL eStr) ((lns (dS s)).map mkS)) := by
  intro w J hG him vs hvs
  obtain ⟨⟨m, hm⟩, _, _⟩ := hG
  have hv : vs = [.string s, .string (mkS [10]), .int .i64 2] := allK_det (us := [.string s, .string (mkS [10]), .int .i64 2]) hvs
  subst hv
  refine (Any.strings_SplitN { Tryz.laysSN with } Tryz.laysSN.i9 s (mkS [10]) 2 m w (by omega) (him _ _ _ hm) (by decide) (by decide) (by decide)).mono fun e w' he => ?_
  obtain ⟨rfl, rfl⟩ := he
  have h := Lib.splitB_length_le (mkS [10]) 0 (min 2 (s.size + 1) - 1) s
  rw [← bSN_eq]
  exact retR_row him (fun i x hx => cellsOf_at hx) (by unfold bSN; simp only [lenMax]; omega) (by unfold bSN; omega)
def bSp (s : ByteArray) : List ByteArray := Lib.splitB (mkS [32]) 0 (Lib.countB s (mkS [32])) s
theorem bSp_eq {s : ByteArray} : bSp s = (Lib.split (dS s) [32]).map mkS := by
  refine map_dS ?_
  unfold bSp
  rw [Lib.splitB_data]
  rfl
theorem ct_Split (s : ByteArray) (hs : s.size ≤ 1000) : CtG GV Tryz.prog 24 [kS s, kS (mkS [32])] (kRd (eL eStr) ((Lib.split (dS s) [32]).map mkS)) := by
  intro w J hG him vs hvs
  obtain ⟨⟨m, hm⟩, _, _⟩ := hG
  have hv : vs = [.string s, .string (mkS [32])] := allK_det (us := [.string s, .string (mkS [32])]) hvs
  subst hv
  refine (Any.strings_Split { Tryz.laysS with } Tryz.laysS.i9 s (mkS [32]) m w (by omega) (him _ _ _ hm) (by decide)).mono fun e w' he => ?_
  obtain ⟨rfl, rfl⟩ := he
  have h := Lib.splitB_all (mkS [32]) (by decide) 0 _ s rfl
  have h2 := Lib.countB_le (mkS [32]) (by decide) s.size s (Nat.le_refl _)
  rw [← bSp_eq, ← h]
  exact retR_row him (fun i x hx => by rw [List.getElem?_toArray, List.getElem?_map]; exact congrArg (Option.map Value.string) hx) (by unfold bSp; rw [h]; simp only [lenMax]; omega) (Nat.le_refl _)
theorem ct_TrimSuffix (s : ByteArray) (hs : s.size ≤ 1000) : Ct Tryz.prog 25 [kS s, kS (mkS [10])] (kS (mkS (Lib.trimSuffix (dS s) [10]))) := by
  intro w J him vs hvs
  have hv : vs = [.string s, .string (mkS [10])] := allK_det (us := [.string s, .string (mkS [10])]) hvs
  subst hv
  refine (Any.strings_TrimSuffix Tryz.laysTS s (mkS [10]) w (by omega)).mono fun e w' he => ?_
  obtain ⟨rfl, rfl⟩ := he
  exact retR_val him (RowKit.Below.refl _ _) rfl
theorem ct_Itoa (n : Int) (h0 : 0 ≤ n) (h1 : n < 100) : Ct Tryz.prog 20 [kI n] (kS (mkS (num n))) := by
  obtain ⟨k, rfl⟩ := Int.eq_ofNat_of_zero_le h0
  intro w J him vs hvs
  have hv : vs = [.int .i64 (k : Int)] := allK_det (us := [.int .i64 (k : Int)]) hvs
  subst hv
  refine (Any.strconv_Itoa_small Tryz.laysIt k (by omega) w).mono fun e w' he => ?_
  obtain ⟨rfl, rfl⟩ := he
  exact retR_val him (RowKit.Below.refl _ _) (by rw [num_dec (by omega)]; rfl)
theorem ct_Atoi (s : ByteArray) (hs : s.size ≤ 1000) : CtG GV Tryz.prog 26 [kS s] (kTup [kI (atV (dS s)), kErr (decide (atO (dS s) = none))]) := by
  intro w J hG him vs hvs
  obtain ⟨_, ⟨t1, p1, hS⟩, ⟨t2, p2, hR⟩⟩ := hG
  have hv : vs = [.string s] := allK_det (us := [.string s]) hvs
  subst hv
  cases hh : Lib.atoiAll s.data.toList with
  | ok v =>
    refine (Any.strconv_Atoi_ok Tryz.laysAt s (by omega) v hh w).mono fun e w' he => ?_
    obtain ⟨rfl, hw⟩ := he
    refine retR_val him (by rcases hw with rfl | ⟨t, rfl⟩; exact RowKit.Below.refl _ _; exact Lib.bytesWorld_below _ _ _) ⟨[_, _], rfl, ?_, ?_, trivial⟩
    · show _ = Value.int .i64 (atV (dS s)); unfold atV; rw [show Lib.atoiAll (dS s) = _ from hh]
    · show kErr (decide (atO (dS s) = none)) _ _; unfold atO; rw [show Lib.atoiAll (dS s) = _ from hh]; rfl
  | range =>
    refine (Any.strconv_Atoi_range Tryz.laysAt s (by omega) hh _ w (him _ _ _ hR) (.inr ⟨_, _, rfl⟩)).mono fun e w' he => ?_
    obtain ⟨N, rfl, _, _, hb⟩ := he
    refine retR_val him hb ⟨[_, _], rfl, ?_, ?_, trivial⟩
    · show _ = Value.int .i64 (atV (dS s)); unfold atV; rw [show Lib.atoiAll (dS s) = _ from hh]
    · show kErr (decide (atO (dS s) = none)) _ _; unfold atO; rw [show Lib.atoiAll (dS s) = _ from hh]; exact ⟨_, _, rfl⟩
  | _ =>
    refine (Any.strconv_Atoi_syntax Tryz.laysAt s (by omega) hh _ w (him _ _ _ hS) (.inr ⟨_, _, rfl⟩)).mono fun e w' he => ?_
    obtain ⟨N, rfl, _, _, hb⟩ := he
    refine retR_val him hb ⟨[_, _], rfl, ?_, ?_, trivial⟩
    · show _ = Value.int .i64 (atV (dS s)); unfold atV; rw [show Lib.atoiAll (dS s) = _ from hh]
    · show kErr (decide (atO (dS s) = none)) _ _; unfold atO; rw [show Lib.atoiAll (dS s) = _ from hh]; exact ⟨_, _, rfl⟩
theorem joExtra : Builder.Extra Tryz.prog Tryz.laysJo_ren where
  sizeBuilder := by kernel_rfl
  liesBuilder := by kernel_rfl
  t5 := Tryz.laysS.t5
  a5 := Tryz.laysS.a5
  z5 := Tryz.laysS.z5
  v5 := Tryz.laysS.v5
  infoByte := by kernel_rfl
  cellsByte := by kernel_rfl
  sizeByte := by kernel_rfl
  neB5 := by decide
theorem ct_Join (xs : List ByteArray) (hlen : (Lib.join (xs.map dS) [32]).length ≤ 1000000) (hN : xs.length ≤ 1000000) : Ct Tryz.prog 21 [kRd (eL eStr) xs, kS (mkS [32])] (kS (mkS (Lib.join (xs.map dS) [32]))) := by
  intro w J him vs hvs
  match vs, hvs with
  | [v, u], ⟨⟨cs, ⟨a, cap, hcs, ⟨hl, hc⟩, hrow⟩, hv⟩, hu, _⟩ =>
  subst hcs
  have hv' : v = .slice a xs.length cap := hv
  have hu' : u = .string (mkS [32]) := hu
  subst hv'; subst hu'
  rcases hrow with rfl | ⟨b, o, rfl, hr⟩
  · refine (Any.strings_Join_none Tryz.laysJo joExtra a cap (mkS [32]) w).mono fun e w' he => ?_
    obtain ⟨rfl, rfl⟩ := he
    exact retR_val him (RowKit.Below.refl _ _) rfl
  · have hcell : ∀ (j : Nat) x, xs[j]? = some x → w.cell? ⟨b, o + j, none⟩ = some (.string x) := fun j x hx => by
      obtain ⟨ds, h1, h2⟩ := hr j x hx
      have h1' : ds = [.string x] := h1
      subst h1'
      have := him _ _ _ (h2 0 _ rfl)
      simpa [eStr] using this
    cases xs with
    | nil =>
      refine (Any.strings_Join_none Tryz.laysJo joExtra _ cap (mkS [32]) w).mono fun e w' he => ?_
      obtain ⟨rfl, rfl⟩ := he
      exact retR_val him (RowKit.Below.refl _ _) rfl
    | cons x xs =>
      refine (Any.strings_Join Tryz.laysJo joExtra b o cap (x :: xs) (mkS [32]) w hcell (World.block_lt_of_cell? _ _ (hcell 0 x rfl)) (by omega) hc (Nat.le_trans hlen (by decide))).mono fun e w' he => ?_
      obtain ⟨rfl, hb⟩ := he
      exact retR_val him hb rfl

end Go.Fl

/- Texts of origamis, the steps of the code: lines, numerals, cutting, numbers. Plain Lean, no program in sight. -/
namespace Go.Fl
/-! ### Lines -/
def lrow (w : Bt) (p : List Int) (k : Nat) : List ByteArray := mkS w :: (p.take k).map fun x => mkS (num x)
theorem lrow_len {w : Bt} {p : List Int} {k : Nat} (h : k ≤ p.length) : (lrow w p k).length = k + 1 := by simp [lrow]; omega
theorem lrow_succ {w : Bt} {p : List Int} {k : Nat} (h : k < p.length) : lrow w p k ++ [mkS (num (nth p k))] = lrow w p (k + 1) := by
  unfold lrow
  rw [take_succ_nth h, List.map_append]
  rfl
theorem lrow_join {w : Bt} {p : List Int} : Lib.join ((lrow w p p.length).map dS) [32] = w ++ wds p := by
  rw [← join_wds]
  unfold lrow
  rw [List.take_length, List.map_cons, List.map_map]
  rfl
theorem join_size {w : Bt} {p : List Int} (hw : w.length ≤ 10) (hp : p.length ≤ 60) : (Lib.join ((lrow w p p.length).map dS) [32]).length ≤ 200 := by
  have := wds_len (p := p)
  rw [lrow_join, List.length_append]
  omega
theorem lrow_out {w : Bt} {p : List Int} : mkS (Lib.join ((lrow w p p.length).map dS) [32]) ++ ⟨#[10]⟩ = mkS (lin w p) := by
  rw [lrow_join]
  exact mkS_app (b := [10])
theorem lin_len {w : Bt} {p : List Int} : (lin w p).length ≤ w.length + 3 * p.length + 1 := by
  have := wds_len (p := p)
  simp only [lin, List.length_append, List.length_cons, List.length_nil]
  omega
/-! ### Numerals, digit by digit -/
def decK (n : Int) : Nat := if n.natAbs < 10 then 1 else 2
def decN (n : Int) (j : Nat) : Int := if j = 0 then n else if j = 1 then n.tdiv 10 else 0
def decS (n : Int) (j : Nat) : Bt := if j = 0 then [] else if j = 1 then [UInt8.ofNat (48 + n.natAbs % 10)] else [UInt8.ofNat (48 + n.natAbs / 10), UInt8.ofNat (48 + n.natAbs % 10)]
def dig10 : ByteArray := mkS [48, 49, 50, 51, 52, 53, 54, 55, 56, 57]
def absI (n : Int) : Int := if n < 0 then -n else n
def decOk (n : Int) (j : Nat) : Bool := !decide (j ≤ decK n) ||
  (((decide (mkS (decS n j) = mkS []) || decide (decN n j ≠ 0)) == decide (j < decK n)) &&
   (!decide (j < decK n) || (decide (dig10.extract (absI ((decN n j).tmod 10)).toNat (absI ((decN n j).tmod 10) + 1).toNat ++ mkS (decS n j) = mkS (decS n (j + 1))) && decide ((decN n j).tdiv 10 = decN n (j + 1)))) &&
   decide (absI ((decN n j).tmod 10) < 10) && decide (-10 < (decN n j).tmod 10) && decide (decS n (decK n) = (if n < 0 then num (-n) else num n)) && decide (-100 < decN n j) && decide (decN n j < 100))
theorem dec_tab : ∀ m : Nat, m < 199 → ∀ j : Nat, j < 3 → decOk ((m : Int) - 99) j = true := by decide +kernel
theorem dec_at {n : Int} (h0 : -100 < n) (h1 : n < 100) {j : Nat} (hj : j ≤ decK n) :
    ((decide (mkS (decS n j) = mkS []) || decide (decN n j ≠ 0)) = true ↔ j < decK n) ∧
    (j < decK n → dig10.extract (absI ((decN n j).tmod 10)).toNat (absI ((decN n j).tmod 10) + 1).toNat ++ mkS (decS n j) = mkS (decS n (j + 1)) ∧ (decN n j).tdiv 10 = decN n (j + 1)) ∧
    absI ((decN n j).tmod 10) < 10 ∧ -10 < (decN n j).tmod 10 ∧ decS n (decK n) = (if n < 0 then num (-n) else num n) ∧ -100 < decN n j ∧ decN n j < 100 := by
  have hk : decK n ≤ 2 := by unfold decK; split <;> omega
  have := dec_tab (n + 99).toNat (by omega) j (by omega)
  rw [show (((n + 99).toNat : Nat) : Int) - 99 = n by omega] at this
  unfold decOk at this
  simp only [Bool.or_eq_true, Bool.and_eq_true, Bool.not_eq_true', decide_eq_false_iff_not, decide_eq_true_eq, beq_iff_eq] at this
  rcases this with h | ⟨⟨⟨⟨⟨⟨a, b⟩, c⟩, d⟩, e⟩, f⟩, g⟩
  · exact absurd hj h
  · refine ⟨by rw [a, decide_eq_true_eq], fun h => ?_, c, d, e, f, g⟩
    rcases b with b | b
    · exact absurd h b
    · exact b
theorem decS_len {n : Int} {j : Nat} : (decS n j).length ≤ 2 := by unfold decS; split; simp; split <;> simp
theorem dig_add {n : Int} {j a b : Nat} : (dig10.extract a b).size + (mkS (decS n j)).size ≤ 9223372036854775807 := by
  rw [mkS_size, ByteArray.size_extract]
  have := decS_len (n := n) (j := j)
  have h : dig10.size = 10 := rfl
  omega
theorem dcm_len {n : Int} : (dcm n).length ≤ 3 := by
  unfold dcm
  split
  · have := num_len (n := -n); simp only [List.length_cons]; omega
  · have := num_len (n := n); omega
/-! ### What the reference prints -/
def rpT (w : Bt) (p : List Int) (k : Nat) : Bt := w ++ wds (p.take k)
theorem rpT_len {w : Bt} {p : List Int} {k : Nat} : (rpT w p k).length ≤ w.length + 3 * p.length := by
  have := wds_len (p := p.take k)
  rw [List.length_take] at this
  rw [rpT, List.length_append]; omega
theorem rpT_succ {w : Bt} {p : List Int} {k : Nat} (h : k < p.length) (h0 : 0 ≤ nth p k) : mkS (rpT w p k) ++ ⟨#[32]⟩ ++ mkS (dcm (nth p k)) = mkS (rpT w p (k + 1)) := by
  rw [show (⟨#[32]⟩ : ByteArray) = mkS [32] from rfl, mkS_app, mkS_app]
  unfold rpT wds
  rw [take_succ_nth h, List.flatMap_append]
  unfold dcm
  rw [if_neg (by omega)]
  simp
theorem rpT_all {w : Bt} {p : List Int} : mkS (rpT w p p.length) ++ ⟨#[10]⟩ = mkS (lin w p) := by
  rw [show (⟨#[10]⟩ : ByteArray) = mkS [10] from rfl, mkS_app]
  unfold rpT
  rw [List.take_length]
  rfl
theorem lin_up {w : Bt} {p q : List Int} : mkS (rpT w p p.length) ++ ⟨#[10, 117, 112]⟩ = mkS (rpT (lin w p ++ wU) q 0) := by
  rw [show (⟨#[10, 117, 112]⟩ : ByteArray) = mkS ([10] ++ wU) from rfl, mkS_app]
  unfold rpT lin
  rw [List.take_length, List.take_zero]
  simp [wds]
theorem lin_app {u : Bt} {p : List Int} : lin (u ++ wU) p = u ++ lin wU p := by simp [lin]
/-! ### Cutting at a byte -/
def cutT (s : ByteArray) (c : Int) : Nat → List ByteArray
  | 0 => [mkS []]
  | i + 1 => if nth (bs s) i = c then cutT s c i ++ [mkS []] else (cutT s c i).set ((cutT s c i).length - 1) (nth (cutT s c i) ((cutT s c i).length - 1) ++ s.extract i (i + 1))
theorem cutT_len {s : ByteArray} {c : Int} : ∀ {i : Nat}, 1 ≤ (cutT s c i).length ∧ (cutT s c i).length ≤ i + 1
  | 0 => by simp [cutT]
  | i + 1 => by
    have := cutT_len (s := s) (c := c) (i := i)
    unfold cutT
    split
    · simp only [List.length_append, List.length_cons, List.length_nil]; omega
    · rw [List.length_set]; omega
theorem cutT_size {s : ByteArray} {c : Int} : ∀ {i : Nat}, ∀ x ∈ cutT s c i, x.size ≤ i
  | 0 => by
    intro x hx
    simp only [cutT, List.mem_singleton] at hx
    subst hx; exact Nat.le_refl _
  | i + 1 => by
    intro x hx
    have ih := cutT_size (s := s) (c := c) (i := i)
    have hl := cutT_len (s := s) (c := c) (i := i)
    unfold cutT at hx
    split at hx
    · rcases List.mem_append.1 hx with h | h
      · exact Nat.le_succ_of_le (ih x h)
      · simp only [List.mem_singleton] at h
        subst h; exact Nat.zero_le _
    · rcases List.mem_or_eq_of_mem_set hx with h | h
      · exact Nat.le_succ_of_le (ih x h)
      · subst h
        have h1 := ih _ (nth_mem (xs := cutT s c i) (i := (cutT s c i).length - 1) (by omega))
        have h2 : (s.extract i (i + 1)).size ≤ 1 := by rw [ByteArray.size_extract]; omega
        rw [ByteArray.size_append]; omega
theorem cutT_set {s : ByteArray} {c : Int} {k : Nat} (h : ¬nth (bs s) k = c) : (cutT s c k).set (((cutT s c k).length : Int) - 1).toNat (nth (cutT s c k) (((cutT s c k).length : Int) - 1).toNat ++ s.extract ((k : Int)).toNat ((k : Int) + 1).toNat) = cutT s c (k + 1) := by
  have := cutT_len (s := s) (c := c) (i := k)
  rw [show (((cutT s c k).length : Int) - 1).toNat = (cutT s c k).length - 1 by omega, Int.toNat_natCast, show ((k : Int) + 1).toNat = k + 1 by omega, cutT, if_neg h]
theorem cutT_add {s : ByteArray} {c : Int} {k : Nat} (h : k ≤ 1000) : (nth (cutT s c k) (((cutT s c k).length : Int) - 1).toNat).size + (s.extract ((k : Int)).toNat ((k : Int) + 1).toNat).size ≤ 9223372036854775807 := by
  have := cutT_len (s := s) (c := c) (i := k)
  have h1 := cutT_size (s := s) (c := c) (i := k) _ (nth_mem (xs := cutT s c k) (i := (((cutT s c k).length : Int) - 1).toNat) (by omega))
  have h2 : (s.extract ((k : Int)).toNat ((k : Int) + 1).toNat).size ≤ 1 := by rw [ByteArray.size_extract]; omega
  omega
def cutS (s : ByteArray) (c : Int) : List ByteArray := cutT s c s.size
theorem cutS_nth {s : ByteArray} {c : Int} {i : Nat} (h : i < (cutS s c).length) : (nth (cutS s c) i).size ≤ s.size := cutT_size _ (nth_mem h)
/-! ### Numbers -/
def frm (s : ByteArray) : Nat := if 0 < s.size ∧ nth (bs s) 0 = 45 then 1 else 0
def vT (s : ByteArray) (f : Nat) : Nat → Int
  | 0 => 0
  | k + 1 => 10 * vT s f k + (nth (bs s) (f + k) - 48)
def isD (s : ByteArray) (i : Nat) : Prop := 48 ≤ nth (bs s) i ∧ nth (bs s) i ≤ 57
instance (s : ByteArray) (i : Nat) : Decidable (isD s i) := by unfold isD; infer_instance
def numV (s : ByteArray) : Int := if frm s = 1 then -vT s (frm s) (s.size - frm s) else vT s (frm s) (s.size - frm s)
def numR (s : ByteArray) : Int × Bool :=
  if s.size < frm s + 1 ∨ frm s + 2 < s.size then (0, false)
  else if ∀ k, k < s.size - frm s → isD s (frm s + k) then (numV s, decide (mkS (dcm (numV s)) = s)) else (0, false)
theorem frm_le {s : ByteArray} : frm s ≤ 1 := by unfold frm; split <;> omega
theorem vT_bd {s : ByteArray} {f : Nat} : ∀ {k : Nat}, k ≤ 2 → (∀ i, i < k → isD s (f + i)) → 0 ≤ vT s f k ∧ vT s f k < (10 : Int) ^ k ∧ vT s f k ≤ 99
  | 0, _, _ => by simp [vT]
  | 1, _, h => by
    have := h 0 (by omega)
    simp only [vT, isD] at this ⊢
    omega
  | 2, _, h => by
    have h0 := h 0 (by omega)
    have h1 := h 1 (by omega)
    simp only [vT, isD] at h0 h1 ⊢
    omega
  | k + 3, h, _ => by omega
theorem numV_bd {s : ByteArray} (h : s.size ≤ frm s + 2) (hd : ∀ k, k < s.size - frm s → isD s (frm s + k)) : -100 < numV s ∧ numV s < 100 := by
  have := vT_bd (s := s) (f := frm s) (k := s.size - frm s) (by omega) hd
  unfold numV
  split <;> omega
/-- The numbers of the words behind the first one. -/
def nmsR (l : List ByteArray) : List Int × Bool := if ∀ k, k < l.length - 1 → (numR (nth l (k + 1))).2 = true then ((l.drop 1).map fun x => (numR x).1, true) else ([], false)
def nmsT (l : List ByteArray) (k : Nat) : List Int := ((l.drop 1).take k).map fun x => (numR x).1
theorem nmsT_succ {l : List ByteArray} {k : Nat} (h : k + 1 < l.length) : nmsT l k ++ [(numR (nth l (k + 1))).1] = nmsT l (k + 1) := by
  unfold nmsT
  rw [take_succ_nth (by rw [List.length_drop]; omega), List.map_append]
  have e : nth (l.drop 1) k = nth l (k + 1) := nth_of_get? (by rw [List.getElem?_drop, Nat.add_comm 1 k]; exact nth_get h)
  rw [List.map_cons, List.map_nil, e]
theorem nmsT_all {l : List ByteArray} {k : Nat} (h : l.length ≤ k + 1) : nmsT l k = (l.drop 1).map fun x => (numR x).1 := by
  unfold nmsT
  rw [List.take_of_length_le (by rw [List.length_drop]; omega)]
def isO (s : ByteArray) : Ori := ((nmsR (cutS (nth (cutS s 10) 0) 32)).1, (nmsR (cutS (nth (cutS s 10) 1) 32)).1)
def isTx (s : ByteArray) : Bool :=
  if (cutS s 10).length ≠ 3 ∨ nth (cutS s 10) 2 ≠ mkS [] then false
  else if nth (cutS (nth (cutS s 10) 0) 32) 0 ≠ mkS wR ∨ nth (cutS (nth (cutS s 10) 1) 32) 0 ≠ mkS wU then false
  else (((nmsR (cutS (nth (cutS s 10) 0) 32)).2 && (nmsR (cutS (nth (cutS s 10) 1) 32)).2) && decide (chkO (isO s) = 0)) && decide (mkS (prt (isO s)) = s)
theorem isTx_sound {s : ByteArray} (h : isTx s = true) : chkO (isO s) = 0 ∧ mkS (prt (isO s)) = s := by
  unfold isTx at h
  split at h
  · cases h
  split at h
  · cases h
  simp only [Bool.and_eq_true, decide_eq_true_eq] at h
  exact ⟨h.1.2, h.2⟩
end Go.Fl

/- Bytes and strings: exclusive or, a row of bytes as a string, one string behind another. -/
namespace Go.Fl
open Go Go.RowKit
/-- A string of bytes that are numbers. -/
abbrev strB (xs : List Int) : ByteArray := strOfNums xs
section
variable {P : Program} {c : Ctx} {S : Slots} {M : Conts} {p : Bool} {d : Option Tmp} {ty : TypeId} {pos : String} {af : Array Edge} {gd : Option (Nat × Bool)} {x y : Operand} {b b' : Bool}
theorem ok_addS {t t' : TypeId} {m n : ByteArray} (hx : opK S x = some (b, kS m)) (hb : p = true → b = true) (hy : opK S y = some (b', kS n)) (hb' : p = true → b' = true) (h : p = true → m.size + n.size ≤ 9223372036854775807) :
    OpOk P c S M ⟨d, .binOp .add t x y t', ty, pos, af, gd⟩ p (kS (m ++ n)) none := by
  cases p with
  | false => exact fun hp => by cases hp
  | true =>
    have h' := h rfl
    refine ok_bin (fun w => ?_) hx hb hy hb'
    simp only [eqGuard, binOp, Op.stringOp, Sem.run_bind]
    simp
    omega
end
end Go.Fl

/- Contracts: what is printed, by the program and by the reference. -/
namespace Go.Fl
open Go Go.Proofs

set_option maxRecDepth 100000 in
theorem ct_rSize (o : Ori) : Ct Tryz.prog 27 [kRd eO o] (kI (o.1.length : Int)) := by
  refine Ct.mk Tryz.func27 rfl Tryz.ntmps27 rfl (fun w J => ?_)
  refine Tr.seq ?_
  refine Tr.rg ?_
  refine TrL.new (ok_box 1 rfl (fun _ => rfl) rfl) rfl rfl rfl rfl ?_
  refine TrL.op (ok_assign rfl (fun _ => rfl)) rfl rfl ?_
  refine TrL.fin ?_
  refine End.nxt ?_
  refine Tr.seq ?_
  refine Tr.rg ?_
  refine TrL.op (ok_fldO rfl (fun _ => rfl)) rfl rfl ?_
  refine TrL.op (ok_ldB rfl (fun _ => rfl) rfl) rfl rfl ?_
  refine TrL.op (ok_lenJ rfl (fun _ => rfl)) rfl rfl ?_
  refine TrL.op (ok_assign rfl (fun _ => rfl)) rfl rfl ?_
  refine TrL.fin ?_
  refine End.nxt ?_
  refine Tr.ret ?_
  exact Rts.res1 (fn := Tryz.f27) rfl (.i rfl (by first | rfl | omega | (simp; done) | (simp; omega) | assumption) <| .nil)

set_option maxRecDepth 100000 in
theorem ct_rSame (a b : Ori) : Ct Tryz.prog 10 [kRd eO a, kRd eO b] (kB (decide (a = b))) := by
  refine Ct.mk Tryz.func10 rfl Tryz.ntmps10 rfl (fun w J => ?_)
  refine Tr.seq ?_
  refine Tr.rg ?_
  refine TrL.new (ok_box 2 rfl (fun _ => rfl) rfl) rfl rfl rfl rfl ?_
  refine TrL.new (ok_box 3 rfl (fun _ => rfl) rfl) rfl rfl rfl rfl ?_
  refine TrL.op (ok_assign rfl (fun _ => rfl)) rfl rfl ?_
  refine TrL.fin ?_
  refine End.nxt ?_
  refine Tr.seq ?_
  refine Tr.rg ?_
  refine TrL.op (ok_fldO rfl (fun _ => rfl)) rfl rfl ?_
  refine TrL.op (ok_ldB rfl (fun _ => rfl) rfl) rfl rfl ?_
  refine TrL.op (ok_fldO rfl (fun _ => rfl)) rfl rfl ?_
  refine TrL.op (ok_ldB rfl (fun _ => rfl) rfl) rfl rfl ?_
  refine TrL.op (ok_call (fun hp => ct_Ints _ _) (.a rfl (fun _ => rfl) <| .a rfl (fun _ => rfl) <| .nil)) rfl rfl ?_
  refine TrL.op (ok_move rfl (fun _ => rfl)) rfl rfl ?_
  refine TrL.gd rfl rfl rfl (ok_fldO rfl (fun _ => rfl)) rfl rfl ?_
  refine TrL.gd rfl rfl rfl (ok_ldB rfl id rfl) rfl rfl ?_
  refine TrL.gd rfl rfl rfl (ok_fldO rfl (fun _ => rfl)) rfl rfl ?_
  refine TrL.gd rfl rfl rfl (ok_ldB rfl id rfl) rfl rfl ?_
  refine TrL.gd rfl rfl rfl (ok_call (fun hp => ct_Ints _ _) (.a rfl id <| .a rfl id <| .nil)) rfl rfl ?_
  refine TrL.op (ok_and rfl (fun _ => rfl) rfl (fun hp h => gdT2 ((fun _ => rfl) hp) h)) rfl rfl ?_
  refine TrL.op (ok_assign rfl (fun _ => rfl)) rfl rfl ?_
  refine TrL.fin ?_
  refine End.nxt ?_
  refine Tr.ret ?_
  exact Rts.res1 (fn := Tryz.f10) rfl (.b rfl (by obtain ⟨a1, a2⟩ := a; obtain ⟨b1, b2⟩ := b; simp only [Prod.mk.injEq]; symm; exact Bool.decide_and _ _) <| .nil)

set_option maxRecDepth 100000 in
theorem ct_pline (u : Bt) (p : List Int) (hw : u.length ≤ 10) (hn : p.length ≤ 60) (hp : ∀ i, i < p.length → 0 ≤ nth p i ∧ nth p i < 100) : Ct Tryz.prog 19 [kS (mkS u), kRd (eL eI) p] (kS (mkS (lin u p))) := by
  have hjs := join_size (w := u) hw hn
  refine Ct.mk Tryz.func19 rfl Tryz.ntmps19 rfl (fun w J => ?_)
  refine Tr.seq ?_
  refine Tr.rg ?_
  refine TrL.op (ok_assign rfl (fun _ => rfl)) rfl rfl ?_
  refine TrL.fin ?_
  refine End.nxt ?_
  refine Tr.seq ?_
  refine Tr.rg ?_
  refine TrL.op (ok_move rfl (fun _ => rfl)) rfl rfl ?_
  refine TrL.new (ok_bsl eStr 9 (fun hp => .cons rfl <| .nil) rfl rfl rfl rfl) rfl rfl rfl rfl ?_
  refine TrL.op (ok_assign rfl (fun _ => rfl)) rfl rfl ?_
  refine TrL.fin ?_
  refine End.nxt ?_
  refine Tr.seq ?_
  refine Tr.seq ?_
  refine Tr.rg ?_
  refine TrL.op (ok_move rfl (fun _ => rfl)) rfl rfl ?_
  refine TrL.op (ok_lenJ rfl (fun _ => rfl)) rfl rfl ?_
  refine TrL.op (ok_move rfl (fun _ => rfl)) rfl rfl ?_
  refine TrL.fin ?_
  refine End.nxt ?_
  refine Tr.for1 (σ := Nat) [⟨10, true, _, _⟩, ⟨11, true, _, _⟩] [] (fun k => [⟨12, true, [], kI (k : Int)⟩, ⟨5, true, [9], kOsl 9 (k + 1)⟩]) (fun k => [⟨9, [], cArr false 9 eStr (lrow u p k) (k + 1)⟩]) (fun k => k ≤ p.length) (fun k => k = p.length) (fun k => p.length - k) (0) (Nat.zero_le _) (Ent.mk (.i rfl (by first | rfl | omega | (simp; done) | (simp; omega) | assumption) <| .o rfl (by first | rfl | omega | (simp; done) | (simp; omega) | assumption) rfl <| .k rfl rfl <| .k rfl rfl <| .nil) (.a (by rfl) (by first | rfl | omega | (simp; done) | (simp; omega) | assumption) <| .nil) rfl) ?_ ?_
  · intro k hR0
    refine Tr.norm (S' := [⟨12, true, _, _⟩, ⟨5, true, _, _⟩, ⟨10, true, _, _⟩, ⟨11, true, _, _⟩]) (M' := [⟨9, _, _⟩]) rfl rfl ?_
    have hpk := hp k
    refine Tr.seq ?_
    refine Tr.rg ?_
    refine TrL.op (ok_lss rfl (fun _ => rfl) rfl (fun _ => rfl)) rfl rfl ?_
    refine TrL.fin ?_
    refine End.nxt ?_
    refine Tr.seq ?_
    refine Tr.cnd rfl ?_ ?_
    · intro h3
      replace h3 := of_decide_eq_true h3
      refine Tr.skip ?_
      refine End.nxt ?_
      refine Tr.seq ?_
      refine Tr.blk ?_
      refine Tr.seq ?_
      refine Tr.rg ?_
      first | refine TrL.op (ok_idxN rfl (fun _ => rfl) rfl (fun _ => rfl) rfl (fun _ => by omega)) rfl rfl ?_ | refine TrL.op (ok_idxP rfl (fun _ => rfl) rfl (fun _ => rfl) rfl (fun _ => by omega)) rfl rfl ?_
      refine TrL.op (ok_ldP rfl (fun _ => rfl) rfl) rfl rfl ?_
      refine TrL.op (ok_assign rfl (fun _ => rfl)) rfl rfl ?_
      refine TrL.fin ?_
      refine End.nxt ?_
      refine Tr.rg ?_
      refine TrL.op (ok_move rfl (fun _ => rfl)) rfl rfl ?_
      refine TrL.op (ok_move rfl (fun _ => rfl)) rfl rfl ?_
      refine TrL.op (ok_call (fun hp => ct_Itoa _ (by omega) (by omega)) (.a rfl (fun _ => rfl) <| .nil)) rfl rfl ?_
      refine TrL.new (ok_bsl eStr 19 (fun hp => .cons rfl <| .nil) rfl rfl rfl rfl) rfl rfl rfl rfl ?_
      refine TrL.app rfl rfl rfl rfl rfl rfl rfl rfl (by first | omega | (simp only [List.length_cons, List.length_nil]; omega)) (by first | omega | (simp only [List.length_cons, List.length_nil]; omega)) ?_
      refine TrL.norm (S' := [⟨_, _, _, _⟩, ⟨_, _, _, _⟩, ⟨_, _, _, _⟩, ⟨_, _, _, _⟩, ⟨_, _, _, _⟩, ⟨_, _, _, _⟩, ⟨_, _, _, _⟩, ⟨_, _, _, _⟩, ⟨_, _, _, _⟩, ⟨_, _, _, _⟩, ⟨_, _, _, _⟩, ⟨_, _, _, _⟩, ⟨_, _, _, _⟩]) rfl rfl ?_
      refine TrL.op (ok_assign rfl (fun _ => rfl)) rfl rfl ?_
      refine TrL.fin ?_
      refine End.blk ?_
      refine End.nxt ?_
      refine Tr.rg ?_
      refine TrL.op (ok_add rfl (fun _ => rfl) rfl (fun _ => rfl) (fun _ => by omega)) rfl rfl ?_
      refine TrL.op (ok_move rfl (fun _ => rfl)) rfl rfl ?_
      refine TrL.fin ?_
      exact End.lp (k + 1) (by first | rfl | omega | (simp; done) | (simp; omega) | assumption) (by omega) (Ent.mk (.i rfl (by first | rfl | omega | (simp; done) | (simp; omega) | assumption) <| .o rfl (by first | rfl | omega | (simp; done) | (simp; omega) | assumption) rfl <| .k rfl rfl <| .k rfl rfl <| .nil) (.a (lrow_succ (by omega)) (by first | rfl | omega | (simp; done) | (simp; omega) | assumption) <| .nil) rfl)
    · intro h3
      replace h3 := Int.not_lt.1 (of_decide_eq_false h3)
      refine Tr.exit ?_
      refine Exs.thn ?_
      refine Exs.thn ?_
      refine Exs.here ?_
      exact End.cut (k) (by omega) (Ent.mk (.i rfl (by first | rfl | omega | (simp; done) | (simp; omega) | assumption) <| .o rfl (by first | rfl | omega | (simp; done) | (simp; omega) | assumption) rfl <| .k rfl rfl <| .k rfl rfl <| .nil) (.a (by first | rfl | omega | (simp; done) | (simp; omega) | assumption) (by first | rfl | omega | (simp; done) | (simp; omega) | assumption) <| .nil) rfl)
  · rintro _ rfl
    refine End.norm (S' := [⟨12, true, _, _⟩, ⟨5, true, _, _⟩, ⟨10, true, _, _⟩, ⟨11, true, _, _⟩]) (M' := [⟨9, _, _⟩]) rfl rfl ?_
    refine End.nxt ?_
    refine Tr.seq ?_
    refine Tr.rg ?_
    refine TrL.op (ok_move rfl (fun _ => rfl)) rfl rfl ?_
    refine TrL.frz 9 [5, 22] ⟨rfl, rfl, trivial⟩ (by simp only [lenMax]; omega) rfl ?_
    refine TrL.norm (S' := [⟨_, _, _, _⟩, ⟨_, _, _, _⟩, ⟨_, _, _, _⟩, ⟨_, _, _, _⟩, ⟨_, _, _, _⟩, ⟨_, _, _, _⟩, ⟨_, _, _, _⟩]) rfl rfl ?_
    refine TrL.op (ok_call (fun hp => ct_Join (lrow u p p.length) (by omega) (by rw [lrow_len (Nat.le_refl _)]; omega)) (.a rfl (fun _ => rfl) <| .a rfl (fun _ => rfl) <| .nil)) rfl rfl ?_
    refine TrL.op (ok_addS rfl (fun _ => rfl) rfl (fun _ => rfl) (fun _ => by rw [mkS_size]; have : (mkS [10]).size = 1 := rfl; show _ + (mkS [10]).size ≤ _; omega)) rfl rfl ?_
    refine TrL.op (ok_assign rfl (fun _ => rfl)) rfl rfl ?_
    refine TrL.fin ?_
    refine End.nxt ?_
    refine Tr.ret ?_
    exact Rts.res1 (fn := Tryz.f19) rfl (.st rfl (lrow_out) <| .nil)

set_option maxRecDepth 100000 in
theorem ct_oPrint (o : Ori) : Ct Tryz.prog 6 [kRd eO o] (kTup [kS (mkS (if chkO o = 0 then prt o else [])), kI (chkO o)]) := by
  refine Ct.mk Tryz.func6 rfl Tryz.ntmps6 rfl (fun w J => ?_)
  refine Tr.seq ?_
  refine Tr.rg ?_
  refine TrL.new (ok_box 1 rfl (fun _ => rfl) rfl) rfl rfl rfl rfl ?_
  refine TrL.op (ok_assign rfl (fun _ => rfl)) rfl rfl ?_
  refine TrL.op (ok_assign rfl (fun _ => rfl)) rfl rfl ?_
  refine TrL.fin ?_
  refine End.nxt ?_
  refine Tr.seq ?_
  refine Tr.seq ?_
  refine Tr.rg ?_
  refine TrL.op (ok_ldBS rfl (fun _ => rfl)) rfl rfl ?_
  refine TrL.op (ok_call (fun hp => ct_oCheck _) (.s rfl (fun _ => rfl) rfl <| .nil)) rfl rfl ?_
  refine TrL.op (ok_assign rfl (fun _ => rfl)) rfl rfl ?_
  refine TrL.fin ?_
  refine End.nxt ?_
  refine Tr.seq ?_
  refine Tr.rg ?_
  refine TrL.op (ok_move rfl (fun _ => rfl)) rfl rfl ?_
  refine TrL.op (ok_neq rfl (fun _ => rfl) rfl (fun _ => rfl)) rfl rfl ?_
  refine TrL.fin ?_
  refine End.nxt ?_
  refine Tr.cnd rfl ?_ ?_
  · intro h2
    replace h2 := of_decide_eq_true h2
    refine Tr.seq ?_
    refine Tr.rg ?_
    refine TrL.op (ok_move rfl (fun _ => rfl)) rfl rfl ?_
    refine TrL.op (ok_assign rfl (fun _ => rfl)) rfl rfl ?_
    refine TrL.op (ok_assign rfl (fun _ => rfl)) rfl rfl ?_
    refine TrL.fin ?_
    refine End.nxt ?_
    refine Tr.ret ?_
    refine Rts.thn ?_
    exact Rts.res (fn := Tryz.f6) (ts := [2, 3]) rfl rfl (.st rfl (by rw [if_neg h2]; rfl) <| .i rfl (by first | rfl | omega | (simp; done) | (simp; omega) | assumption) <| .nil)
  · intro h2
    replace h2 := Classical.not_not.1 (of_decide_eq_false h2)
    have v : Valid o := valid_of h2
    have hv2 := v.le
    have hv1 := v.len
    have hrb : ∀ i, i < o.1.length → 0 ≤ nth o.1 i ∧ nth o.1 i < 100 := fun i hi => by have := v.rR i hi; omega
    have hub : ∀ i, i < o.2.length → 0 ≤ nth o.2 i ∧ nth o.2 i < 100 := fun i hi => by have := v.rU i hi; omega
    have hz1 := lin_len (w := wR) (p := o.1)
    have hz2 := lin_len (w := wU) (p := o.2)
    have hz3 : wR.length = 5 := rfl
    have hz4 : wU.length = 2 := rfl
    refine Tr.skip ?_
    refine End.nxt ?_
    refine Tr.seq ?_
    refine Tr.rg ?_
    refine TrL.op (ok_assign rfl (fun _ => rfl)) rfl rfl ?_
    refine TrL.fin ?_
    refine End.nxt ?_
    refine Tr.seq ?_
    refine Tr.draw 7 mixed (by kernel_rfl) ?_
    refine RunD.op (ok_move rfl (fun _ => rfl)) rfl rfl ?_
    refine RunD.op (ok_fldO rfl (fun _ => rfl)) rfl rfl ?_
    refine RunD.op (ok_ldB rfl (fun _ => rfl) rfl) rfl rfl ?_
    refine RunD.op (ok_callV rfl (fun _ => rfl) (fun hp => ct_pline wR o.1 (by decide) (by omega) hrb) (.a rfl (fun _ => rfl) <| .a rfl (fun _ => rfl) <| .nil)) rfl rfl ?_
    refine RunD.op (ok_move rfl (fun _ => rfl)) rfl rfl ?_
    refine RunD.op (ok_fldO rfl (fun _ => rfl)) rfl rfl ?_
    refine RunD.op (ok_ldB rfl (fun _ => rfl) rfl) rfl rfl ?_
    refine RunD.z ?_
    refine TrL.op (ok_callV rfl (fun _ => rfl) (fun hp => ct_pline wU o.2 (by decide) (by omega) hub) (.a rfl (fun _ => rfl) <| .a rfl (fun _ => rfl) <| .nil)) rfl rfl ?_
    refine TrL.op (ok_addS rfl (fun _ => rfl) rfl (fun _ => rfl) (fun _ => by rw [mkS_size, mkS_size]; omega)) rfl rfl ?_
    refine TrL.op (ok_assign rfl (fun _ => rfl)) rfl rfl ?_
    refine TrL.op (ok_assign rfl (fun _ => rfl)) rfl rfl ?_
    refine TrL.fin ?_
    refine End.nxt ?_
    refine Tr.ret ?_
    exact Rts.res (fn := Tryz.f6) (ts := [2, 3]) rfl rfl (.st rfl (by rw [if_pos h2]; exact mkS_app) <| .i rfl h2.symm <| .nil)

set_option maxRecDepth 100000 in
theorem ct_Decimal (n : Int) (h0 : -100 < n) (h1 : n < 100) : Ct Tryz.prog 28 [kI n] (kS (mkS (dcm n))) := by
  refine Ct.mk Tryz.func28 rfl Tryz.ntmps28 rfl (fun w J => ?_)
  refine Tr.seq ?_
  refine Tr.rg ?_
  refine TrL.op (ok_assign rfl (fun _ => rfl)) rfl rfl ?_
  refine TrL.fin ?_
  refine End.nxt ?_
  refine Tr.seq ?_
  refine Tr.rg ?_
  refine TrL.op (ok_assign rfl (fun _ => rfl)) rfl rfl ?_
  refine TrL.op (ok_assign rfl (fun _ => rfl)) rfl rfl ?_
  refine TrL.fin ?_
  refine End.nxt ?_
  refine Tr.seq ?_
  refine Tr.seq ?_
  refine Tr.rg ?_
  refine TrL.op (ok_move rfl (fun _ => rfl)) rfl rfl ?_
  refine TrL.op (ok_lss rfl (fun _ => rfl) rfl (fun _ => rfl)) rfl rfl ?_
  refine TrL.fin ?_
  refine End.nxt ?_
  refine Tr.cnd rfl ?_ ?_
  · intro h2
    replace h2 := of_decide_eq_true h2
    refine Tr.rg ?_
    refine TrL.op (ok_assign rfl (fun _ => rfl)) rfl rfl ?_
    refine TrL.fin ?_
    refine End.nxt ?_
    refine Tr.for (σ := Nat) [⟨4, true, _, _⟩] [] (fun j => [⟨0, true, [], kI (decN n j)⟩, ⟨3, true, [], kS (mkS (decS n j))⟩]) (fun j => []) (fun j => j ≤ decK n) (fun j => j = decK n) (fun j => decK n - j) (0) (Nat.zero_le _) (Ent.mk (.i rfl (by rfl) <| .st rfl (by rfl) <| .k rfl rfl <| .nil) (.nil) rfl) ?_ ?_
    · intro j hR0
      refine Tr.norm (S' := [⟨0, true, _, _⟩, ⟨3, true, _, _⟩, ⟨4, true, _, _⟩]) (M' := []) rfl rfl ?_
      obtain ⟨hd1, hd2, hd3, hd4, hd5, hd6, hd7⟩ := dec_at h0 h1 (j := j) (by assumption)
      refine Tr.seq ?_
      refine Tr.seq ?_
      refine Tr.rg ?_
      refine TrL.op (ok_move rfl (fun _ => rfl)) rfl rfl ?_
      refine TrL.op (ok_eqlS rfl (fun _ => rfl) rfl (fun _ => rfl)) rfl rfl ?_
      refine TrL.op (ok_move rfl (fun _ => rfl)) rfl rfl ?_
      refine TrL.gd rfl rfl rfl (ok_move rfl (fun _ => rfl)) rfl rfl ?_
      refine TrL.gd rfl rfl rfl (ok_neq rfl id rfl (fun _ => rfl)) rfl rfl ?_
      refine TrL.op (ok_or rfl (fun _ => rfl) rfl (fun hp h => gdF2 ((fun _ => rfl) hp) h)) rfl rfl ?_
      refine TrL.fin ?_
      refine End.nxt ?_
      refine Tr.cnd rfl ?_ ?_
      · intro h4
        have hlt : j < decK n := hd1.1 h4
        obtain ⟨he1, he2⟩ := hd2 hlt
        obtain ⟨_, _, _, _, _, hg6, hg7⟩ := dec_at h0 h1 (j := j + 1) (by omega)
        refine Tr.skip ?_
        refine End.nxt ?_
        refine Tr.blk ?_
        refine Tr.seq ?_
        refine Tr.rg ?_
        refine TrL.op (ok_move rfl (fun _ => rfl)) rfl rfl ?_
        refine TrL.op (ok_rem rfl (fun _ => rfl) rfl (fun _ => rfl) (fun _ => by omega)) rfl rfl ?_
        refine TrL.op (ok_assign rfl (fun _ => rfl)) rfl rfl ?_
        refine TrL.fin ?_
        refine End.nxt ?_
        refine Tr.seq ?_
        refine Tr.seq ?_
        refine Tr.rg ?_
        refine TrL.op (ok_move rfl (fun _ => rfl)) rfl rfl ?_
        refine TrL.op (ok_lss rfl (fun _ => rfl) rfl (fun _ => rfl)) rfl rfl ?_
        refine TrL.fin ?_
        refine End.nxt ?_
        refine Tr.cnd rfl ?_ ?_
        · intro h6
          replace h6 := of_decide_eq_true h6
          have hab : absI ((decN n j).tmod 10) = -(decN n j).tmod 10 := if_pos h6
          rw [hab] at he1 hd3
          refine Tr.rg ?_
          refine TrL.op (ok_move rfl (fun _ => rfl)) rfl rfl ?_
          refine TrL.op (ok_neg rfl (fun _ => rfl) (fun _ => by omega)) rfl rfl ?_
          refine TrL.op (ok_assign rfl (fun _ => rfl)) rfl rfl ?_
          refine TrL.fin ?_
          refine End.nxt ?_
          refine Tr.seq ?_
          refine Tr.rg ?_
          refine TrL.op (ok_move rfl (fun _ => rfl)) rfl rfl ?_
          refine TrL.op (ok_move rfl (fun _ => rfl)) rfl rfl ?_
          refine TrL.op (ok_add rfl (fun _ => rfl) rfl (fun _ => rfl) (fun _ => by omega)) rfl rfl ?_
          refine TrL.op (ok_slSlh rfl (fun _ => rfl) rfl (fun _ => rfl) rfl (fun _ => rfl) (fun _ => ⟨by omega, by omega, by show _ ≤ ((10 : Nat) : Int); omega⟩)) rfl rfl ?_
          refine TrL.op (ok_move rfl (fun _ => rfl)) rfl rfl ?_
          refine TrL.op (ok_addS rfl (fun _ => rfl) rfl (fun _ => rfl) (fun _ => dig_add)) rfl rfl ?_
          refine TrL.op (ok_assign rfl (fun _ => rfl)) rfl rfl ?_
          refine TrL.fin ?_
          refine End.nxt ?_
          refine Tr.rg ?_
          refine TrL.op (ok_move rfl (fun _ => rfl)) rfl rfl ?_
          refine TrL.op (ok_quo rfl (fun _ => rfl) rfl (fun _ => rfl) (fun _ => by omega)) rfl rfl ?_
          refine TrL.op (ok_assign rfl (fun _ => rfl)) rfl rfl ?_
          refine TrL.fin ?_
          refine End.blk ?_
          exact End.lp (j + 1) (by omega) (by omega) (Ent.mk (.i rfl he2 <| .st rfl he1 <| .k rfl rfl <| .nil) (.nil) rfl)
        · intro h6
          replace h6 := Int.not_lt.1 (of_decide_eq_false h6)
          have hab : absI ((decN n j).tmod 10) = (decN n j).tmod 10 := if_neg (by omega)
          rw [hab] at he1 hd3
          refine Tr.skip ?_
          refine End.nxt ?_
          refine Tr.seq ?_
          refine Tr.rg ?_
          refine TrL.op (ok_move rfl (fun _ => rfl)) rfl rfl ?_
          refine TrL.op (ok_move rfl (fun _ => rfl)) rfl rfl ?_
          refine TrL.op (ok_add rfl (fun _ => rfl) rfl (fun _ => rfl) (fun _ => by omega)) rfl rfl ?_
          refine TrL.op (ok_slSlh rfl (fun _ => rfl) rfl (fun _ => rfl) rfl (fun _ => rfl) (fun _ => ⟨by omega, by omega, by show _ ≤ ((10 : Nat) : Int); omega⟩)) rfl rfl ?_
          refine TrL.op (ok_move rfl (fun _ => rfl)) rfl rfl ?_
          refine TrL.op (ok_addS rfl (fun _ => rfl) rfl (fun _ => rfl) (fun _ => dig_add)) rfl rfl ?_
          refine TrL.op (ok_assign rfl (fun _ => rfl)) rfl rfl ?_
          refine TrL.fin ?_
          refine End.nxt ?_
          refine Tr.rg ?_
          refine TrL.op (ok_move rfl (fun _ => rfl)) rfl rfl ?_
          refine TrL.op (ok_quo rfl (fun _ => rfl) rfl (fun _ => rfl) (fun _ => by omega)) rfl rfl ?_
          refine TrL.op (ok_assign rfl (fun _ => rfl)) rfl rfl ?_
          refine TrL.fin ?_
          refine End.blk ?_
          exact End.lp (j + 1) (by omega) (by omega) (Ent.mk (.i rfl he2 <| .st rfl he1 <| .k rfl rfl <| .nil) (.nil) rfl)
      · intro h4
        have hge : ¬ j < decK n := fun hh => by have := (hd1.2 hh).symm.trans h4; cases this
        refine Tr.exit ?_
        refine Exs.thn ?_
        refine Exs.thn ?_
        refine Exs.here ?_
        exact End.cut (j) (by omega) (Ent.mk (.i rfl (by first | rfl | omega | (simp; done) | (simp; omega) | assumption) <| .k rfl rfl <| .k rfl rfl <| .nil) (.nil) rfl)
    · rintro _ rfl
      refine Tr.norm (S' := [⟨0, true, _, _⟩, ⟨3, true, _, _⟩, ⟨4, true, _, _⟩]) (M' := []) rfl rfl ?_
      obtain ⟨hd1, hd2, hd3, hd4, hd5, hd6, hd7⟩ := dec_at h0 h1 (j := decK n) (Nat.le_refl _)
      refine Tr.seq ?_
      refine Tr.rg ?_
      refine TrL.op (ok_move rfl (fun _ => rfl)) rfl rfl ?_
      refine TrL.op (ok_move rfl (fun _ => rfl)) rfl rfl ?_
      refine TrL.op (ok_addS rfl (fun _ => rfl) rfl (fun _ => rfl) (fun _ => by rw [mkS_size]; have := decS_len (n := n) (j := decK n); have : (⟨#[45]⟩ : ByteArray).size = 1 := rfl; have : (⟨#[]⟩ : ByteArray).size = 0 := rfl; omega)) rfl rfl ?_
      refine TrL.op (ok_assign rfl (fun _ => rfl)) rfl rfl ?_
      refine TrL.fin ?_
      refine End.nxt ?_
      refine Tr.ret ?_
      exact Rts.res1 (fn := Tryz.f28) rfl (.st rfl (by unfold dcm; rw [if_pos h2]; rw [if_pos h2] at hd5; rw [hd5]; exact mkS_app (a := [45])) <| .nil)
  · intro h2
    replace h2 := Int.not_lt.1 (of_decide_eq_false h2)
    refine Tr.skip ?_
    refine End.nxt ?_
    refine Tr.for (σ := Nat) [⟨4, true, _, _⟩] [] (fun j => [⟨0, true, [], kI (decN n j)⟩, ⟨3, true, [], kS (mkS (decS n j))⟩]) (fun j => []) (fun j => j ≤ decK n) (fun j => j = decK n) (fun j => decK n - j) (0) (Nat.zero_le _) (Ent.mk (.i rfl (by rfl) <| .st rfl (by rfl) <| .k rfl rfl <| .nil) (.nil) rfl) ?_ ?_
    · intro j hR0
      refine Tr.norm (S' := [⟨0, true, _, _⟩, ⟨3, true, _, _⟩, ⟨4, true, _, _⟩]) (M' := []) rfl rfl ?_
      obtain ⟨hd1, hd2, hd3, hd4, hd5, hd6, hd7⟩ := dec_at h0 h1 (j := j) (by assumption)
      refine Tr.seq ?_
      refine Tr.seq ?_
      refine Tr.rg ?_
      refine TrL.op (ok_move rfl (fun _ => rfl)) rfl rfl ?_
      refine TrL.op (ok_eqlS rfl (fun _ => rfl) rfl (fun _ => rfl)) rfl rfl ?_
      refine TrL.op (ok_move rfl (fun _ => rfl)) rfl rfl ?_
      refine TrL.gd rfl rfl rfl (ok_move rfl (fun _ => rfl)) rfl rfl ?_
      refine TrL.gd rfl rfl rfl (ok_neq rfl id rfl (fun _ => rfl)) rfl rfl ?_
      refine TrL.op (ok_or rfl (fun _ => rfl) rfl (fun hp h => gdF2 ((fun _ => rfl) hp) h)) rfl rfl ?_
      refine TrL.fin ?_
      refine End.nxt ?_
      refine Tr.cnd rfl ?_ ?_
      · intro h4
        have hlt : j < decK n := hd1.1 h4
        obtain ⟨he1, he2⟩ := hd2 hlt
        obtain ⟨_, _, _, _, _, hg6, hg7⟩ := dec_at h0 h1 (j := j + 1) (by omega)
        refine Tr.skip ?_
        refine End.nxt ?_
        refine Tr.blk ?_
        refine Tr.seq ?_
        refine Tr.rg ?_
        refine TrL.op (ok_move rfl (fun _ => rfl)) rfl rfl ?_
        refine TrL.op (ok_rem rfl (fun _ => rfl) rfl (fun _ => rfl) (fun _ => by omega)) rfl rfl ?_
        refine TrL.op (ok_assign rfl (fun _ => rfl)) rfl rfl ?_
        refine TrL.fin ?_
        refine End.nxt ?_
        refine Tr.seq ?_
        refine Tr.seq ?_
        refine Tr.rg ?_
        refine TrL.op (ok_move rfl (fun _ => rfl)) rfl rfl ?_
        refine TrL.op (ok_lss rfl (fun _ => rfl) rfl (fun _ => rfl)) rfl rfl ?_
        refine TrL.fin ?_
        refine End.nxt ?_
        refine Tr.cnd rfl ?_ ?_
        · intro h6
          replace h6 := of_decide_eq_true h6
          have hab : absI ((decN n j).tmod 10) = -(decN n j).tmod 10 := if_pos h6
          rw [hab] at he1 hd3
          refine Tr.rg ?_
          refine TrL.op (ok_move rfl (fun _ => rfl)) rfl rfl ?_
          refine TrL.op (ok_neg rfl (fun _ => rfl) (fun _ => by omega)) rfl rfl ?_
          refine TrL.op (ok_assign rfl (fun _ => rfl)) rfl rfl ?_
          refine TrL.fin ?_
          refine End.nxt ?_
          refine Tr.seq ?_
          refine Tr.rg ?_
          refine TrL.op (ok_move rfl (fun _ => rfl)) rfl rfl ?_
          refine TrL.op (ok_move rfl (fun _ => rfl)) rfl rfl ?_
          refine TrL.op (ok_add rfl (fun _ => rfl) rfl (fun _ => rfl) (fun _ => by omega)) rfl rfl ?_
          refine TrL.op (ok_slSlh rfl (fun _ => rfl) rfl (fun _ => rfl) rfl (fun _ => rfl) (fun _ => ⟨by omega, by omega, by show _ ≤ ((10 : Nat) : Int); omega⟩)) rfl rfl ?_
          refine TrL.op (ok_move rfl (fun _ => rfl)) rfl rfl ?_
          refine TrL.op (ok_addS rfl (fun _ => rfl) rfl (fun _ => rfl) (fun _ => dig_add)) rfl rfl ?_
          refine TrL.op (ok_assign rfl (fun _ => rfl)) rfl rfl ?_
          refine TrL.fin ?_
          refine End.nxt ?_
          refine Tr.rg ?_
          refine TrL.op (ok_move rfl (fun _ => rfl)) rfl rfl ?_
          refine TrL.op (ok_quo rfl (fun _ => rfl) rfl (fun _ => rfl) (fun _ => by omega)) rfl rfl ?_
          refine TrL.op (ok_assign rfl (fun _ => rfl)) rfl rfl ?_
          refine TrL.fin ?_
          refine End.blk ?_
          exact End.lp (j + 1) (by omega) (by omega) (Ent.mk (.i rfl he2 <| .st rfl he1 <| .k rfl rfl <| .nil) (.nil) rfl)
        · intro h6
          replace h6 := Int.not_lt.1 (of_decide_eq_false h6)
          have hab : absI ((decN n j).tmod 10) = (decN n j).tmod 10 := if_neg (by omega)
          rw [hab] at he1 hd3
          refine Tr.skip ?_
          refine End.nxt ?_
          refine Tr.seq ?_
          refine Tr.rg ?_
          refine TrL.op (ok_move rfl (fun _ => rfl)) rfl rfl ?_
          refine TrL.op (ok_move rfl (fun _ => rfl)) rfl rfl ?_
          refine TrL.op (ok_add rfl (fun _ => rfl) rfl (fun _ => rfl) (fun _ => by omega)) rfl rfl ?_
          refine TrL.op (ok_slSlh rfl (fun _ => rfl) rfl (fun _ => rfl) rfl (fun _ => rfl) (fun _ => ⟨by omega, by omega, by show _ ≤ ((10 : Nat) : Int); omega⟩)) rfl rfl ?_
          refine TrL.op (ok_move rfl (fun _ => rfl)) rfl rfl ?_
          refine TrL.op (ok_addS rfl (fun _ => rfl) rfl (fun _ => rfl) (fun _ => dig_add)) rfl rfl ?_
          refine TrL.op (ok_assign rfl (fun _ => rfl)) rfl rfl ?_
          refine TrL.fin ?_
          refine End.nxt ?_
          refine Tr.rg ?_
          refine TrL.op (ok_move rfl (fun _ => rfl)) rfl rfl ?_
          refine TrL.op (ok_quo rfl (fun _ => rfl) rfl (fun _ => rfl) (fun _ => by omega)) rfl rfl ?_
          refine TrL.op (ok_assign rfl (fun _ => rfl)) rfl rfl ?_
          refine TrL.fin ?_
          refine End.blk ?_
          exact End.lp (j + 1) (by omega) (by omega) (Ent.mk (.i rfl he2 <| .st rfl he1 <| .k rfl rfl <| .nil) (.nil) rfl)
      · intro h4
        have hge : ¬ j < decK n := fun hh => by have := (hd1.2 hh).symm.trans h4; cases this
        refine Tr.exit ?_
        refine Exs.thn ?_
        refine Exs.thn ?_
        refine Exs.here ?_
        exact End.cut (j) (by omega) (Ent.mk (.i rfl (by first | rfl | omega | (simp; done) | (simp; omega) | assumption) <| .k rfl rfl <| .k rfl rfl <| .nil) (.nil) rfl)
    · rintro _ rfl
      refine Tr.norm (S' := [⟨0, true, _, _⟩, ⟨3, true, _, _⟩, ⟨4, true, _, _⟩]) (M' := []) rfl rfl ?_
      obtain ⟨hd1, hd2, hd3, hd4, hd5, hd6, hd7⟩ := dec_at h0 h1 (j := decK n) (Nat.le_refl _)
      refine Tr.seq ?_
      refine Tr.rg ?_
      refine TrL.op (ok_move rfl (fun _ => rfl)) rfl rfl ?_
      refine TrL.op (ok_move rfl (fun _ => rfl)) rfl rfl ?_
      refine TrL.op (ok_addS rfl (fun _ => rfl) rfl (fun _ => rfl) (fun _ => by rw [mkS_size]; have := decS_len (n := n) (j := decK n); have : (⟨#[45]⟩ : ByteArray).size = 1 := rfl; have : (⟨#[]⟩ : ByteArray).size = 0 := rfl; omega)) rfl rfl ?_
      refine TrL.op (ok_assign rfl (fun _ => rfl)) rfl rfl ?_
      refine TrL.fin ?_
      refine End.nxt ?_
      refine Tr.ret ?_
      exact Rts.res1 (fn := Tryz.f28) rfl (.st rfl (by unfold dcm; rw [if_neg (by omega)]; rw [if_neg (by omega)] at hd5; rw [hd5]; exact mkS_app (a := [])) <| .nil)

set_option maxRecDepth 100000 in
theorem ct_rPrint (o : Ori) (v : Valid o) : Ct Tryz.prog 9 [kRd eO o] (kS (mkS (prt o))) := by
  have hv2 := v.le
  have hv1 := v.len
  have hrb : ∀ i, i < o.1.length → 0 ≤ nth o.1 i ∧ nth o.1 i < 100 := fun i hi => by have := v.rR i hi; omega
  have hub : ∀ i, i < o.2.length → 0 ≤ nth o.2 i ∧ nth o.2 i < 100 := fun i hi => by have := v.rU i hi; omega
  have hz1 := lin_len (w := wR) (p := o.1)
  have hz2 := lin_len (w := wU) (p := o.2)
  have hz3 : wR.length = 5 := rfl
  have hz4 : wU.length = 2 := rfl
  refine Ct.mk Tryz.func9 rfl Tryz.ntmps9 rfl (fun w J => ?_)
  refine Tr.seq ?_
  refine Tr.rg ?_
  refine TrL.new (ok_box 1 rfl (fun _ => rfl) rfl) rfl rfl rfl rfl ?_
  refine TrL.op (ok_assign rfl (fun _ => rfl)) rfl rfl ?_
  refine TrL.fin ?_
  refine End.nxt ?_
  refine Tr.seq ?_
  refine Tr.rg ?_
  refine TrL.op (ok_assign rfl (fun _ => rfl)) rfl rfl ?_
  refine TrL.fin ?_
  refine End.nxt ?_
  refine Tr.seq ?_
  refine Tr.seq ?_
  refine Tr.rg ?_
  refine TrL.op (ok_assign rfl (fun _ => rfl)) rfl rfl ?_
  refine TrL.fin ?_
  refine End.nxt ?_
  refine Tr.for1 (σ := Nat) [⟨1, true, _, _⟩] [⟨1, _, _⟩] (fun k => [⟨4, true, [], kI (k : Int)⟩, ⟨3, true, [], kS (mkS (rpT wR o.1 k))⟩]) (fun k => []) (fun k => k ≤ o.1.length) (fun k => k = o.1.length) (fun k => o.1.length - k) (0) (Nat.zero_le _) (Ent.mk (.i rfl (by first | rfl | omega | (simp; done) | (simp; omega) | assumption) <| .st rfl (by rfl) <| .k rfl rfl <| .nil) (.k rfl <| .nil) rfl) ?_ ?_
  · intro k hR0
    refine Tr.norm (S' := [⟨4, true, _, _⟩, ⟨3, true, _, _⟩, ⟨1, true, _, _⟩]) (M' := [⟨1, _, _⟩]) rfl rfl ?_
    have hrk := hrb k
    have hrl := rpT_len (w := wR) (p := o.1) (k := k)
    have hdl := dcm_len (n := nth o.1 k)
    refine Tr.seq ?_
    refine Tr.seq ?_
    refine Tr.rg ?_
    refine TrL.op (ok_move rfl (fun _ => rfl)) rfl rfl ?_
    refine TrL.op (ok_ldBS rfl (fun _ => rfl)) rfl rfl ?_
    refine TrL.op (ok_call (fun hp => ct_rSize _) (.s rfl (fun _ => rfl) rfl <| .nil)) rfl rfl ?_
    refine TrL.op (ok_lss rfl (fun _ => rfl) rfl (fun _ => rfl)) rfl rfl ?_
    refine TrL.fin ?_
    refine End.nxt ?_
    refine Tr.cnd rfl ?_ ?_
    · intro h3
      replace h3 := of_decide_eq_true h3
      refine Tr.skip ?_
      refine End.nxt ?_
      refine Tr.seq ?_
      refine Tr.blk ?_
      refine Tr.rg ?_
      refine TrL.op (ok_move rfl (fun _ => rfl)) rfl rfl ?_
      refine TrL.op (ok_addS rfl (fun _ => rfl) rfl (fun _ => rfl) (fun _ => by simp only [mkS_size]; have : (⟨#[32]⟩ : ByteArray).size = 1 := rfl; have : (⟨#[10]⟩ : ByteArray).size = 1 := rfl; have : (⟨#[10, 117, 112]⟩ : ByteArray).size = 3 := rfl; omega)) rfl rfl ?_
      refine TrL.op (ok_fldO rfl (fun _ => rfl)) rfl rfl ?_
      refine TrL.op (ok_ldB rfl (fun _ => rfl) rfl) rfl rfl ?_
      refine TrL.op (ok_move rfl (fun _ => rfl)) rfl rfl ?_
      first | refine TrL.op (ok_idxN rfl (fun _ => rfl) rfl (fun _ => rfl) rfl (fun _ => by omega)) rfl rfl ?_ | refine TrL.op (ok_idxP rfl (fun _ => rfl) rfl (fun _ => rfl) rfl (fun _ => by omega)) rfl rfl ?_
      refine TrL.op (ok_ldP rfl (fun _ => rfl) rfl) rfl rfl ?_
      refine TrL.op (ok_call (fun hp => ct_Decimal _ (by omega) (by omega)) (.a rfl (fun _ => rfl) <| .nil)) rfl rfl ?_
      refine TrL.op (ok_addS rfl (fun _ => rfl) rfl (fun _ => rfl) (fun _ => by simp only [ByteArray.size_append, mkS_size]; have : (⟨#[32]⟩ : ByteArray).size = 1 := rfl; have : (⟨#[10]⟩ : ByteArray).size = 1 := rfl; have : (⟨#[10, 117, 112]⟩ : ByteArray).size = 3 := rfl; omega)) rfl rfl ?_
      refine TrL.op (ok_assign rfl (fun _ => rfl)) rfl rfl ?_
      refine TrL.fin ?_
      refine End.blk ?_
      refine End.nxt ?_
      refine Tr.rg ?_
      refine TrL.op (ok_move rfl (fun _ => rfl)) rfl rfl ?_
      refine TrL.op (ok_add rfl (fun _ => rfl) rfl (fun _ => rfl) (fun _ => by omega)) rfl rfl ?_
      refine TrL.op (ok_assign rfl (fun _ => rfl)) rfl rfl ?_
      refine TrL.fin ?_
      exact End.lp (k + 1) (by first | rfl | omega | (simp; done) | (simp; omega) | assumption) (by omega) (Ent.mk (.i rfl (by first | rfl | omega | (simp; done) | (simp; omega) | assumption) <| .st rfl (rpT_succ (by omega) (by omega)) <| .k rfl rfl <| .nil) (.k rfl <| .nil) rfl)
    · intro h3
      replace h3 := Int.not_lt.1 (of_decide_eq_false h3)
      refine Tr.exit ?_
      refine Exs.thn ?_
      refine Exs.thn ?_
      refine Exs.here ?_
      exact End.cut (k) (by omega) (Ent.mk (.i rfl (by first | rfl | omega | (simp; done) | (simp; omega) | assumption) <| .k rfl rfl <| .k rfl rfl <| .nil) (.k rfl <| .nil) rfl)
  · rintro _ rfl
    refine End.norm (S' := [⟨4, true, _, _⟩, ⟨3, true, _, _⟩, ⟨1, true, _, _⟩]) (M' := [⟨1, _, _⟩]) rfl rfl ?_
    have hrl := rpT_len (w := wR) (p := o.1) (k := o.1.length)
    refine End.nxt ?_
    refine Tr.seq ?_
    refine Tr.rg ?_
    refine TrL.op (ok_move rfl (fun _ => rfl)) rfl rfl ?_
    refine TrL.op (ok_addS rfl (fun _ => rfl) rfl (fun _ => rfl) (fun _ => by simp only [mkS_size]; have : (⟨#[32]⟩ : ByteArray).size = 1 := rfl; have : (⟨#[10]⟩ : ByteArray).size = 1 := rfl; have : (⟨#[10, 117, 112]⟩ : ByteArray).size = 3 := rfl; omega)) rfl rfl ?_
    refine TrL.op (ok_assign rfl (fun _ => rfl)) rfl rfl ?_
    refine TrL.fin ?_
    refine End.nxt ?_
    refine Tr.seq ?_
    refine Tr.seq ?_
    refine Tr.rg ?_
    refine TrL.op (ok_assign rfl (fun _ => rfl)) rfl rfl ?_
    refine TrL.fin ?_
    refine End.nxt ?_
    refine Tr.for1 (σ := Nat) [⟨1, true, _, _⟩] [⟨1, _, _⟩] (fun i => [⟨5, true, [], kI (i : Int)⟩, ⟨3, true, [], kS (mkS (rpT (lin wR o.1 ++ wU) o.2 i))⟩]) (fun i => []) (fun i => i ≤ o.1.length) (fun i => i = o.1.length) (fun i => o.1.length - i) (0) (Nat.zero_le _) (Ent.mk (.i rfl (by first | rfl | omega | (simp; done) | (simp; omega) | assumption) <| .st rfl lin_up <| .k rfl rfl <| .nil) (.k rfl <| .nil) rfl) ?_ ?_
    · intro i hR1
      refine Tr.norm (S' := [⟨5, true, _, _⟩, ⟨3, true, _, _⟩, ⟨1, true, _, _⟩]) (M' := [⟨1, _, _⟩]) rfl rfl ?_
      have hrk := hub i
      have hrl := rpT_len (w := lin wR o.1 ++ wU) (p := o.2) (k := i)
      rw [List.length_append] at hrl
      have hdl := dcm_len (n := nth o.2 i)
      refine Tr.seq ?_
      refine Tr.seq ?_
      refine Tr.rg ?_
      refine TrL.op (ok_move rfl (fun _ => rfl)) rfl rfl ?_
      refine TrL.op (ok_ldBS rfl (fun _ => rfl)) rfl rfl ?_
      refine TrL.op (ok_call (fun hp => ct_rSize _) (.s rfl (fun _ => rfl) rfl <| .nil)) rfl rfl ?_
      refine TrL.op (ok_lss rfl (fun _ => rfl) rfl (fun _ => rfl)) rfl rfl ?_
      refine TrL.fin ?_
      refine End.nxt ?_
      refine Tr.cnd rfl ?_ ?_
      · intro h8
        replace h8 := of_decide_eq_true h8
        refine Tr.skip ?_
        refine End.nxt ?_
        refine Tr.seq ?_
        refine Tr.blk ?_
        refine Tr.rg ?_
        refine TrL.op (ok_move rfl (fun _ => rfl)) rfl rfl ?_
        refine TrL.op (ok_addS rfl (fun _ => rfl) rfl (fun _ => rfl) (fun _ => by simp only [mkS_size]; have : (⟨#[32]⟩ : ByteArray).size = 1 := rfl; have : (⟨#[10]⟩ : ByteArray).size = 1 := rfl; have : (⟨#[10, 117, 112]⟩ : ByteArray).size = 3 := rfl; omega)) rfl rfl ?_
        refine TrL.op (ok_fldO rfl (fun _ => rfl)) rfl rfl ?_
        refine TrL.op (ok_ldB rfl (fun _ => rfl) rfl) rfl rfl ?_
        refine TrL.op (ok_move rfl (fun _ => rfl)) rfl rfl ?_
        first | refine TrL.op (ok_idxN rfl (fun _ => rfl) rfl (fun _ => rfl) rfl (fun _ => by omega)) rfl rfl ?_ | refine TrL.op (ok_idxP rfl (fun _ => rfl) rfl (fun _ => rfl) rfl (fun _ => by omega)) rfl rfl ?_
        refine TrL.op (ok_ldP rfl (fun _ => rfl) rfl) rfl rfl ?_
        refine TrL.op (ok_call (fun hp => ct_Decimal _ (by omega) (by omega)) (.a rfl (fun _ => rfl) <| .nil)) rfl rfl ?_
        refine TrL.op (ok_addS rfl (fun _ => rfl) rfl (fun _ => rfl) (fun _ => by simp only [ByteArray.size_append, mkS_size]; have : (⟨#[32]⟩ : ByteArray).size = 1 := rfl; have : (⟨#[10]⟩ : ByteArray).size = 1 := rfl; have : (⟨#[10, 117, 112]⟩ : ByteArray).size = 3 := rfl; omega)) rfl rfl ?_
        refine TrL.op (ok_assign rfl (fun _ => rfl)) rfl rfl ?_
        refine TrL.fin ?_
        refine End.blk ?_
        refine End.nxt ?_
        refine Tr.rg ?_
        refine TrL.op (ok_move rfl (fun _ => rfl)) rfl rfl ?_
        refine TrL.op (ok_add rfl (fun _ => rfl) rfl (fun _ => rfl) (fun _ => by omega)) rfl rfl ?_
        refine TrL.op (ok_assign rfl (fun _ => rfl)) rfl rfl ?_
        refine TrL.fin ?_
        exact End.lp (i + 1) (by first | rfl | omega | (simp; done) | (simp; omega) | assumption) (by omega) (Ent.mk (.i rfl (by first | rfl | omega | (simp; done) | (simp; omega) | assumption) <| .st rfl (rpT_succ (by omega) (by omega)) <| .k rfl rfl <| .nil) (.k rfl <| .nil) rfl)
      · intro h8
        replace h8 := Int.not_lt.1 (of_decide_eq_false h8)
        refine Tr.exit ?_
        refine Exs.thn ?_
        refine Exs.thn ?_
        refine Exs.here ?_
        exact End.cut (i) (by omega) (Ent.mk (.i rfl (by first | rfl | omega | (simp; done) | (simp; omega) | assumption) <| .k rfl rfl <| .k rfl rfl <| .nil) (.k rfl <| .nil) rfl)
    · rintro _ rfl
      refine End.norm (S' := [⟨5, true, _, _⟩, ⟨3, true, _, _⟩, ⟨1, true, _, _⟩]) (M' := [⟨1, _, _⟩]) rfl rfl ?_
      have hrl := rpT_len (w := lin wR o.1 ++ wU) (p := o.2) (k := o.1.length)
      rw [List.length_append] at hrl
      refine End.nxt ?_
      refine Tr.seq ?_
      refine Tr.rg ?_
      refine TrL.op (ok_move rfl (fun _ => rfl)) rfl rfl ?_
      refine TrL.op (ok_addS rfl (fun _ => rfl) rfl (fun _ => rfl) (fun _ => by simp only [mkS_size]; have : (⟨#[32]⟩ : ByteArray).size = 1 := rfl; have : (⟨#[10]⟩ : ByteArray).size = 1 := rfl; have : (⟨#[10, 117, 112]⟩ : ByteArray).size = 3 := rfl; omega)) rfl rfl ?_
      refine TrL.op (ok_assign rfl (fun _ => rfl)) rfl rfl ?_
      refine TrL.fin ?_
      refine End.nxt ?_
      refine Tr.ret ?_
      exact Rts.res1 (fn := Tryz.f9) rfl (.st rfl (by rw [← v.len, rpT_all, lin_app]; rfl) <| .nil)

end Go.Fl

/- Contracts: cutting, numbers, whether a text is that of an origami. -/
namespace Go.Fl
open Go Go.Proofs


theorem u8sub {x : Int} (h0 : 48 ≤ x) (h1 : x ≤ 57) : IntKind.i64.wrap (IntKind.u8.wrap (x - 48)) = x - 48 := by
  simp [IntKind.wrap, IntKind.bits, IntKind.signed]; omega

set_option maxRecDepth 100000 in
theorem ct_bCut (s : ByteArray) (c : Int) (hs : s.size ≤ 1000) : Ct Tryz.prog 29 [kS s, kInt .u8 c] (kRd (eL eStr) (cutS s c)) := by
  refine Ct.mk Tryz.func29 rfl Tryz.ntmps29 rfl (fun w J => ?_)
  refine Tr.seq ?_
  refine Tr.rg ?_
  refine TrL.op (ok_assign rfl (fun _ => rfl)) rfl rfl ?_
  refine TrL.fin ?_
  refine End.nxt ?_
  refine Tr.seq ?_
  refine Tr.rg ?_
  refine TrL.new (ok_bsl eStr 7 (fun hp => .cons rfl <| .nil) rfl rfl rfl rfl) rfl rfl rfl rfl ?_
  refine TrL.op (ok_assign rfl (fun _ => rfl)) rfl rfl ?_
  refine TrL.fin ?_
  refine End.nxt ?_
  refine Tr.seq ?_
  refine Tr.seq ?_
  refine Tr.rg ?_
  refine TrL.op (ok_assign rfl (fun _ => rfl)) rfl rfl ?_
  refine TrL.fin ?_
  refine End.nxt ?_
  refine Tr.for1 (σ := Nat) [⟨0, true, _, _⟩, ⟨1, true, _, _⟩] [] (fun k => [⟨6, true, [], kI (k : Int)⟩, ⟨5, true, [7], kOsl 7 (cutT s c k).length⟩]) (fun k => [⟨7, [], cArr false 9 eStr (cutT s c k) (cutT s c k).length⟩]) (fun k => k ≤ s.size) (fun k => k = s.size) (fun k => s.size - k) (0) (Nat.zero_le _) (Ent.mk (.i rfl (by first | rfl | omega | (simp; done) | (simp; omega) | assumption) <| .o rfl (by rfl) rfl <| .k rfl rfl <| .k rfl rfl <| .nil) (.a (by rfl) (by first | rfl | omega | (simp; done) | (simp; omega) | assumption) <| .nil) rfl) ?_ ?_
  · intro k hR0
    refine Tr.norm (S' := [⟨6, true, _, _⟩, ⟨5, true, _, _⟩, ⟨0, true, _, _⟩, ⟨1, true, _, _⟩]) (M' := [⟨7, _, _⟩]) rfl rfl ?_
    have hcl := cutT_len (s := s) (c := c) (i := k)
    refine Tr.seq ?_
    refine Tr.seq ?_
    refine Tr.rg ?_
    refine TrL.op (ok_move rfl (fun _ => rfl)) rfl rfl ?_
    refine TrL.op (ok_move rfl (fun _ => rfl)) rfl rfl ?_
    refine TrL.op (ok_lenS rfl (fun _ => rfl)) rfl rfl ?_
    refine TrL.op (ok_lss rfl (fun _ => rfl) rfl (fun _ => rfl)) rfl rfl ?_
    refine TrL.fin ?_
    refine End.nxt ?_
    refine Tr.cnd rfl ?_ ?_
    · intro h3
      replace h3 := of_decide_eq_true h3
      refine Tr.skip ?_
      refine End.nxt ?_
      refine Tr.seq ?_
      refine Tr.blk ?_
      refine Tr.seq ?_
      refine Tr.seq ?_
      refine Tr.rg ?_
      refine TrL.op (ok_move rfl (fun _ => rfl)) rfl rfl ?_
      refine TrL.op (ok_move rfl (fun _ => rfl)) rfl rfl ?_
      refine TrL.op (ok_idxS rfl (fun _ => rfl) rfl (fun _ => rfl) (fun _ => by omega)) rfl rfl ?_
      refine TrL.op (ok_move rfl (fun _ => rfl)) rfl rfl ?_
      refine TrL.op (ok_eql rfl (fun _ => rfl) rfl (fun _ => rfl)) rfl rfl ?_
      refine TrL.fin ?_
      refine End.nxt ?_
      refine Tr.cnd rfl ?_ ?_
      · intro h5
        replace h5 := of_decide_eq_true h5
        refine Tr.seq ?_
        refine Tr.rg ?_
        refine TrL.op (ok_move rfl (fun _ => rfl)) rfl rfl ?_
        refine TrL.new (ok_bsl eStr 20 (fun hp => .cons rfl <| .nil) rfl rfl rfl rfl) rfl rfl rfl rfl ?_
        refine TrL.app rfl rfl rfl rfl rfl rfl rfl rfl (by first | omega | (simp only [List.length_cons, List.length_nil]; omega)) (by first | omega | (simp only [List.length_cons, List.length_nil]; omega)) ?_
        refine TrL.norm (S' := [⟨_, _, _, _⟩, ⟨_, _, _, _⟩, ⟨_, _, _, _⟩, ⟨_, _, _, _⟩, ⟨_, _, _, _⟩, ⟨_, _, _, _⟩, ⟨_, _, _, _⟩, ⟨_, _, _, _⟩, ⟨_, _, _, _⟩, ⟨_, _, _, _⟩, ⟨_, _, _, _⟩, ⟨_, _, _, _⟩, ⟨_, _, _, _⟩, ⟨_, _, _, _⟩, ⟨_, _, _, _⟩, ⟨_, _, _, _⟩]) rfl rfl ?_
        refine TrL.op (ok_assign rfl (fun _ => rfl)) rfl rfl ?_
        refine TrL.fin ?_
        refine End.nxt ?_
        refine Tr.exit ?_
        refine Exs.thn ?_
        refine Exs.here ?_
        refine End.nxt ?_
        refine Tr.rg ?_
        refine TrL.op (ok_move rfl (fun _ => rfl)) rfl rfl ?_
        refine TrL.op (ok_add rfl (fun _ => rfl) rfl (fun _ => rfl) (fun _ => by omega)) rfl rfl ?_
        refine TrL.op (ok_assign rfl (fun _ => rfl)) rfl rfl ?_
        refine TrL.fin ?_
        exact End.lp (k + 1) (by first | rfl | omega | (simp; done) | (simp; omega) | assumption) (by omega) (Ent.mk (.i rfl (by first | rfl | omega | (simp; done) | (simp; omega) | assumption) <| .o rfl (by rw [cutT, if_pos h5, List.length_append]; rfl) rfl <| .k rfl rfl <| .k rfl rfl <| .nil) (.a (by rw [cutT, if_pos h5]; rfl) (by rw [cutT, if_pos h5, List.length_append]; rfl) <| .nil) rfl)
      · intro h5
        replace h5 := of_decide_eq_false h5
        refine Tr.skip ?_
        refine End.nxt ?_
        refine Tr.draw 16 mixed (by kernel_rfl) ?_
        refine RunD.op (ok_move rfl (fun _ => rfl)) rfl rfl ?_
        refine RunD.op (ok_move rfl (fun _ => rfl)) rfl rfl ?_
        refine RunD.op (ok_lenO rfl (fun _ => rfl)) rfl rfl ?_
        refine RunD.op (ok_sub rfl (fun _ => rfl) rfl (fun _ => rfl) (fun _ => by omega)) rfl rfl ?_
        refine RunD.op (ok_move rfl (fun _ => rfl)) rfl rfl ?_
        refine RunD.op (ok_move rfl (fun _ => rfl)) rfl rfl ?_
        refine RunD.op (ok_lenO rfl (fun _ => rfl)) rfl rfl ?_
        refine RunD.op (ok_sub rfl (fun _ => rfl) rfl (fun _ => rfl) (fun _ => by omega)) rfl rfl ?_
        first | refine RunD.op (ok_idxEN rfl (fun _ => rfl) rfl (fun _ => rfl) (fun _ => by omega)) rfl rfl ?_ | refine RunD.op (ok_idxE rfl (fun _ => rfl) rfl (fun _ => rfl) (fun _ => by omega)) rfl rfl ?_
        refine RunD.op (ok_ldE rfl (fun _ => rfl) rfl rfl rfl) rfl rfl ?_
        refine RunD.op (ok_move rfl (fun _ => rfl)) rfl rfl ?_
        refine RunD.op (ok_move rfl (fun _ => rfl)) rfl rfl ?_
        refine RunD.op (ok_move rfl (fun _ => rfl)) rfl rfl ?_
        refine RunD.op (ok_add rfl (fun _ => rfl) rfl (fun _ => rfl) (fun _ => by omega)) rfl rfl ?_
        refine RunD.op (ok_slSlh rfl (fun _ => rfl) rfl (fun _ => rfl) rfl (fun _ => rfl) (fun _ => by omega)) rfl rfl ?_
        refine RunD.op (ok_addS rfl (fun _ => rfl) rfl (fun _ => rfl) (fun _ => cutT_add (by omega))) rfl rfl ?_
        refine RunD.z ?_
        first | refine TrL.op (ok_idxEN rfl (fun _ => rfl) rfl (fun _ => rfl) (fun _ => by omega)) rfl rfl ?_ | refine TrL.op (ok_idxE rfl (fun _ => rfl) rfl (fun _ => rfl) (fun _ => by omega)) rfl rfl ?_
        refine TrL.stE rfl rfl rfl rfl rfl ?_
        refine TrL.fin ?_
        refine End.blk ?_
        refine End.nxt ?_
        refine Tr.rg ?_
        refine TrL.op (ok_move rfl (fun _ => rfl)) rfl rfl ?_
        refine TrL.op (ok_add rfl (fun _ => rfl) rfl (fun _ => rfl) (fun _ => by omega)) rfl rfl ?_
        refine TrL.op (ok_assign rfl (fun _ => rfl)) rfl rfl ?_
        refine TrL.fin ?_
        exact End.lp (k + 1) (by first | rfl | omega | (simp; done) | (simp; omega) | assumption) (by omega) (Ent.mk (.i rfl (by first | rfl | omega | (simp; done) | (simp; omega) | assumption) <| .o rfl (by rw [cutT, if_neg h5, List.length_set]) rfl <| .k rfl rfl <| .k rfl rfl <| .nil) (.a (cutT_set h5) (by rw [cutT, if_neg h5, List.length_set]) <| .nil) rfl)
    · intro h3
      replace h3 := Int.not_lt.1 (of_decide_eq_false h3)
      refine Tr.exit ?_
      refine Exs.thn ?_
      refine Exs.thn ?_
      refine Exs.here ?_
      exact End.cut (k) (by omega) (Ent.mk (.i rfl (by first | rfl | omega | (simp; done) | (simp; omega) | assumption) <| .o rfl (by first | rfl | omega | (simp; done) | (simp; omega) | assumption) rfl <| .k rfl rfl <| .k rfl rfl <| .nil) (.a (by first | rfl | omega | (simp; done) | (simp; omega) | assumption) (by first | rfl | omega | (simp; done) | (simp; omega) | assumption) <| .nil) rfl)
  · rintro _ rfl
    refine End.norm (S' := [⟨6, true, _, _⟩, ⟨5, true, _, _⟩, ⟨0, true, _, _⟩, ⟨1, true, _, _⟩]) (M' := [⟨7, _, _⟩]) rfl rfl ?_
    have hcl := cutT_len (s := s) (c := c) (i := s.size)
    refine End.nxt ?_
    refine Tr.seq ?_
    refine Tr.rg ?_
    refine TrL.op (ok_move rfl (fun _ => rfl)) rfl rfl ?_
    refine TrL.op (ok_assign rfl (fun _ => rfl)) rfl rfl ?_
    refine TrL.fin ?_
    refine End.nxt ?_
    refine Tr.frz 7 [4] ⟨rfl, trivial⟩ (by simp only [lenMax]; omega) rfl ?_
    refine Tr.ret ?_
    exact Rts.res1 (fn := Tryz.f29) rfl (.r rfl (by rfl) <| .nil)

set_option maxRecDepth 100000 in
theorem ct_bNumber (s : ByteArray) (hs : s.size ≤ 1000) : Ct Tryz.prog 53 [kS s, kI 2] (kTup [kI (numR s).1, kB (numR s).2]) := by
  have hfl := frm_le (s := s)
  refine Ct.mk Tryz.func53 rfl Tryz.ntmps53 rfl (fun w J => ?_)
  refine Tr.seq ?_
  refine Tr.rg ?_
  refine TrL.op (ok_assign rfl (fun _ => rfl)) rfl rfl ?_
  refine TrL.op (ok_assign rfl (fun _ => rfl)) rfl rfl ?_
  refine TrL.fin ?_
  refine End.nxt ?_
  refine Tr.seq ?_
  refine Tr.rg ?_
  refine TrL.op (ok_assign rfl (fun _ => rfl)) rfl rfl ?_
  refine TrL.op (ok_assign rfl (fun _ => rfl)) rfl rfl ?_
  refine TrL.fin ?_
  refine End.nxt ?_
  refine Tr.meet2 (σ := Unit) [⟨0, true, _, _⟩, ⟨1, true, _, _⟩, ⟨6, true, _, _⟩] [] (.k rfl rfl <| .k rfl rfl <| .k rfl rfl <| .nil) (.nil) (fun _ => [⟨7, true, [], kI (frm s : Int)⟩]) (fun _ => []) (fun _ => True) ?_ ?_
  · skip
    refine Tr.seq ?_
    refine Tr.rg ?_
    refine TrL.op (ok_move rfl (fun _ => rfl)) rfl rfl ?_
    refine TrL.op (ok_lenS rfl (fun _ => rfl)) rfl rfl ?_
    refine TrL.op (ok_gtr rfl (fun _ => rfl) rfl (fun _ => rfl)) rfl rfl ?_
    refine TrL.op (ok_move rfl (fun _ => rfl)) rfl rfl ?_
    refine TrL.gd rfl rfl rfl (ok_move rfl (fun _ => rfl)) rfl rfl ?_
    refine TrL.gd rfl rfl rfl (ok_idxS rfl id rfl (fun _ => rfl) (fun hp => by simp at hp; omega)) rfl rfl ?_
    refine TrL.gd rfl rfl rfl (ok_eql rfl id rfl (fun _ => rfl)) rfl rfl ?_
    refine TrL.op (ok_and rfl (fun _ => rfl) rfl (fun hp h => gdT2 ((fun _ => rfl) hp) h)) rfl rfl ?_
    refine TrL.fin ?_
    refine End.nxt ?_
    refine Tr.cnd rfl ?_ ?_
    · intro h2
      refine Tr.rg ?_
      refine TrL.op (ok_assign rfl (fun _ => rfl)) rfl rfl ?_
      refine TrL.fin ?_
      exact End.cut (()) (by first | rfl | omega | (simp; done) | (simp; omega) | assumption) (Ent.mk (.i rfl (by unfold frm; simp at h2; rw [if_pos (by omega)]; rfl) <| .k rfl rfl <| .k rfl rfl <| .k rfl rfl <| .nil) (.nil) rfl)
    · intro h2
      refine Tr.skip ?_
      exact End.cut (()) (by first | rfl | omega | (simp; done) | (simp; omega) | assumption) (Ent.mk (.i rfl (by unfold frm; simp at h2; rw [if_neg (by omega)]; rfl) <| .k rfl rfl <| .k rfl rfl <| .k rfl rfl <| .nil) (.nil) rfl)
  · intro _ hM
    refine Tr.norm (S' := [⟨7, true, _, _⟩, ⟨0, true, _, _⟩, ⟨1, true, _, _⟩, ⟨6, true, _, _⟩]) (M' := []) rfl rfl ?_
    refine Tr.seq ?_
    refine Tr.seq ?_
    refine Tr.rg ?_
    refine TrL.op (ok_move rfl (fun _ => rfl)) rfl rfl ?_
    refine TrL.op (ok_lenS rfl (fun _ => rfl)) rfl rfl ?_
    refine TrL.op (ok_move rfl (fun _ => rfl)) rfl rfl ?_
    refine TrL.op (ok_sub rfl (fun _ => rfl) rfl (fun _ => rfl) (fun _ => by omega)) rfl rfl ?_
    refine TrL.op (ok_lss rfl (fun _ => rfl) rfl (fun _ => rfl)) rfl rfl ?_
    refine TrL.op (ok_move rfl (fun _ => rfl)) rfl rfl ?_
    refine TrL.gd rfl rfl rfl (ok_move rfl (fun _ => rfl)) rfl rfl ?_
    refine TrL.gd rfl rfl rfl (ok_lenS rfl id) rfl rfl ?_
    refine TrL.gd rfl rfl rfl (ok_move rfl (fun _ => rfl)) rfl rfl ?_
    refine TrL.gd rfl rfl rfl (ok_sub rfl id rfl id (fun hp => by simp at hp; omega)) rfl rfl ?_
    refine TrL.gd rfl rfl rfl (ok_move rfl (fun _ => rfl)) rfl rfl ?_
    refine TrL.gd rfl rfl rfl (ok_gtr rfl id rfl id) rfl rfl ?_
    refine TrL.op (ok_or rfl (fun _ => rfl) rfl (fun hp h => gdF2 ((fun _ => rfl) hp) h)) rfl rfl ?_
    refine TrL.fin ?_
    refine End.nxt ?_
    refine Tr.cnd rfl ?_ ?_
    · intro h4
      try simp only [decide_eq_true_eq, Bool.or_eq_true] at h4
      refine Tr.seq ?_
      refine Tr.rg ?_
      refine TrL.op (ok_assign rfl (fun _ => rfl)) rfl rfl ?_
      refine TrL.op (ok_assign rfl (fun _ => rfl)) rfl rfl ?_
      refine TrL.fin ?_
      refine End.nxt ?_
      refine Tr.ret ?_
      refine Rts.thn ?_
      exact Rts.res (fn := Tryz.f53) (ts := [4, 5]) rfl rfl (.i rfl (by unfold numR; rw [if_pos (by omega)]) <| .b rfl (by unfold numR; rw [if_pos (by omega)]) <| .nil)
    · intro h4
      try simp only [decide_eq_false_iff_not, Bool.or_eq_false_iff, Int.not_lt] at h4
      refine Tr.skip ?_
      refine End.nxt ?_
      refine Tr.seq ?_
      refine Tr.seq ?_
      refine Tr.rg ?_
      refine TrL.op (ok_move rfl (fun _ => rfl)) rfl rfl ?_
      refine TrL.op (ok_assign rfl (fun _ => rfl)) rfl rfl ?_
      refine TrL.fin ?_
      refine End.nxt ?_
      refine Tr.for1 (σ := Nat) [⟨0, true, _, _⟩, ⟨7, true, _, _⟩] [] (fun k => [⟨6, true, [], kI (vT s (frm s) k)⟩, ⟨8, true, [], kI ((frm s + k : Nat) : Int)⟩]) (fun k => []) (fun k => k ≤ s.size - frm s ∧ ∀ i, i < k → isD s (frm s + i)) (fun k => k = s.size - frm s ∧ ∀ i, i < k → isD s (frm s + i)) (fun k => s.size - frm s - k) (0) ⟨Nat.zero_le _, fun i h => absurd h (by omega)⟩ (Ent.mk (.i rfl (by rfl) <| .i rfl (by first | rfl | omega | (simp; done) | (simp; omega) | assumption) <| .k rfl rfl <| .k rfl rfl <| .nil) (.nil) rfl) ?_ ?_
      · rintro k ⟨hk0, hR0⟩
        refine Tr.norm (S' := [⟨6, true, _, _⟩, ⟨8, true, _, _⟩, ⟨0, true, _, _⟩, ⟨7, true, _, _⟩]) (M' := []) rfl rfl ?_
        refine Tr.seq ?_
        refine Tr.seq ?_
        refine Tr.rg ?_
        refine TrL.op (ok_move rfl (fun _ => rfl)) rfl rfl ?_
        refine TrL.op (ok_move rfl (fun _ => rfl)) rfl rfl ?_
        refine TrL.op (ok_lenS rfl (fun _ => rfl)) rfl rfl ?_
        refine TrL.op (ok_lss rfl (fun _ => rfl) rfl (fun _ => rfl)) rfl rfl ?_
        refine TrL.fin ?_
        refine End.nxt ?_
        refine Tr.cnd rfl ?_ ?_
        · intro h7
          replace h7 := of_decide_eq_true h7
          refine Tr.skip ?_
          refine End.nxt ?_
          refine Tr.seq ?_
          refine Tr.blk ?_
          refine Tr.seq ?_
          refine Tr.seq ?_
          refine Tr.rg ?_
          refine TrL.op (ok_move rfl (fun _ => rfl)) rfl rfl ?_
          refine TrL.op (ok_move rfl (fun _ => rfl)) rfl rfl ?_
          refine TrL.op (ok_idxS rfl (fun _ => rfl) rfl (fun _ => rfl) (fun _ => by omega)) rfl rfl ?_
          refine TrL.op (ok_lss rfl (fun _ => rfl) rfl (fun _ => rfl)) rfl rfl ?_
          refine TrL.op (ok_move rfl (fun _ => rfl)) rfl rfl ?_
          refine TrL.gd rfl rfl rfl (ok_move rfl (fun _ => rfl)) rfl rfl ?_
          refine TrL.gd rfl rfl rfl (ok_move rfl (fun _ => rfl)) rfl rfl ?_
          refine TrL.gd rfl rfl rfl (ok_idxS rfl id rfl id (fun hp => by simp at hp; omega)) rfl rfl ?_
          refine TrL.gd rfl rfl rfl (ok_gtr rfl id rfl (fun _ => rfl)) rfl rfl ?_
          refine TrL.op (ok_or rfl (fun _ => rfl) rfl (fun hp h => gdF2 ((fun _ => rfl) hp) h)) rfl rfl ?_
          refine TrL.fin ?_
          refine End.nxt ?_
          refine Tr.cnd rfl ?_ ?_
          · intro h9
            try simp only [decide_eq_true_eq, Bool.or_eq_true] at h9
            have hnd : ¬ ∀ k, k < s.size - frm s → isD s (frm s + k) := fun hh => by have := hh k (by omega); unfold isD at this; omega
            refine Tr.seq ?_
            refine Tr.rg ?_
            refine TrL.op (ok_assign rfl (fun _ => rfl)) rfl rfl ?_
            refine TrL.op (ok_assign rfl (fun _ => rfl)) rfl rfl ?_
            refine TrL.fin ?_
            refine End.nxt ?_
            refine Tr.ret ?_
            refine Rts.thn ?_
            refine Rts.out ?_
            refine Rts.thn ?_
            refine Rts.thn ?_
            refine Rts.out ?_
            refine Rts.thn ?_
            refine Rts.thn ?_
            exact Rts.res (fn := Tryz.f53) (ts := [4, 5]) rfl rfl (.i rfl (by unfold numR; rw [if_neg (by omega), if_neg hnd]) <| .b rfl (by unfold numR; rw [if_neg (by omega), if_neg hnd]) <| .nil)
          · intro h9
            try simp only [decide_eq_false_iff_not, Bool.or_eq_false_iff, Int.not_lt] at h9
            have hdg : isD s (frm s + k) := by unfold isD; omega
            have hvb := vT_bd (s := s) (f := frm s) (k := k) (by omega) hR0
            have hd0 := hdg.1
            have hd1 := hdg.2
            refine Tr.skip ?_
            refine End.nxt ?_
            refine Tr.rg ?_
            refine TrL.op (ok_move rfl (fun _ => rfl)) rfl rfl ?_
            refine TrL.op (ok_mul rfl (fun _ => rfl) rfl (fun _ => rfl) (fun _ => by omega)) rfl rfl ?_
            refine TrL.op (ok_move rfl (fun _ => rfl)) rfl rfl ?_
            refine TrL.op (ok_move rfl (fun _ => rfl)) rfl rfl ?_
            refine TrL.op (ok_idxS rfl (fun _ => rfl) rfl (fun _ => rfl) (fun _ => by omega)) rfl rfl ?_
            refine TrL.op (ok_subW rfl (fun _ => rfl) rfl (fun _ => rfl)) rfl rfl ?_
            refine TrL.op (ok_convE (nth (bs s) (frm s + k) - 48) rfl (fun _ => rfl) (fun _ => u8sub hdg.1 hdg.2)) rfl rfl ?_
            refine TrL.op (ok_add rfl (fun _ => rfl) rfl (fun _ => rfl) (fun _ => by omega)) rfl rfl ?_
            refine TrL.op (ok_assign rfl (fun _ => rfl)) rfl rfl ?_
            refine TrL.fin ?_
            refine End.blk ?_
            refine End.nxt ?_
            refine Tr.rg ?_
            refine TrL.op (ok_move rfl (fun _ => rfl)) rfl rfl ?_
            refine TrL.op (ok_add rfl (fun _ => rfl) rfl (fun _ => rfl) (fun _ => by omega)) rfl rfl ?_
            refine TrL.op (ok_assign rfl (fun _ => rfl)) rfl rfl ?_
            refine TrL.fin ?_
            exact End.lp (k + 1) ⟨by omega, all_succ hR0 hdg⟩ (by omega) (Ent.mk (.i rfl (by rfl) <| .i rfl (by omega) <| .k rfl rfl <| .k rfl rfl <| .nil) (.nil) rfl)
        · intro h7
          replace h7 := Int.not_lt.1 (of_decide_eq_false h7)
          refine Tr.exit ?_
          refine Exs.thn ?_
          refine Exs.thn ?_
          refine Exs.here ?_
          exact End.cut (k) ⟨by omega, hR0⟩ (Ent.mk (.i rfl (by first | rfl | omega | (simp; done) | (simp; omega) | assumption) <| .i rfl (by first | rfl | omega | (simp; done) | (simp; omega) | assumption) <| .k rfl rfl <| .k rfl rfl <| .nil) (.nil) rfl)
      · rintro _ ⟨rfl, hE0⟩
        refine End.norm (S' := [⟨6, true, _, _⟩, ⟨8, true, _, _⟩, ⟨0, true, _, _⟩, ⟨7, true, _, _⟩]) (M' := []) rfl rfl ?_
        have hvb := vT_bd (s := s) (f := frm s) (k := s.size - frm s) (by omega) hE0
        have hnb := numV_bd (s := s) (by omega) hE0
        refine End.nxt ?_
        refine Tr.seq ?_
        refine Tr.seq ?_
        refine Tr.rg ?_
        refine TrL.op (ok_move rfl (fun _ => rfl)) rfl rfl ?_
        refine TrL.op (ok_eql rfl (fun _ => rfl) rfl (fun _ => rfl)) rfl rfl ?_
        refine TrL.fin ?_
        refine End.nxt ?_
        refine Tr.cnd rfl ?_ ?_
        · intro h12
          replace h12 := of_decide_eq_true h12
          have hnv : numV s = -vT s (frm s) (s.size - frm s) := if_pos (by omega)
          refine Tr.rg ?_
          refine TrL.op (ok_move rfl (fun _ => rfl)) rfl rfl ?_
          refine TrL.op (ok_neg rfl (fun _ => rfl) (fun _ => by omega)) rfl rfl ?_
          refine TrL.op (ok_assign rfl (fun _ => rfl)) rfl rfl ?_
          refine TrL.fin ?_
          refine End.nxt ?_
          refine Tr.seq ?_
          refine Tr.rg ?_
          refine TrL.op (ok_move rfl (fun _ => rfl)) rfl rfl ?_
          refine TrL.op (ok_move rfl (fun _ => rfl)) rfl rfl ?_
          refine TrL.op (ok_call (fun hp => ct_Decimal _ (by omega) (by omega)) (.a rfl (fun _ => rfl) <| .nil)) rfl rfl ?_
          refine TrL.op (ok_move rfl (fun _ => rfl)) rfl rfl ?_
          refine TrL.op (ok_eqlS rfl (fun _ => rfl) rfl (fun _ => rfl)) rfl rfl ?_
          refine TrL.op (ok_assign rfl (fun _ => rfl)) rfl rfl ?_
          refine TrL.op (ok_assign rfl (fun _ => rfl)) rfl rfl ?_
          refine TrL.fin ?_
          refine End.nxt ?_
          refine Tr.ret ?_
          exact Rts.res (fn := Tryz.f53) (ts := [4, 5]) rfl rfl (.i rfl (by unfold numR; rw [if_neg (by omega), if_pos hE0]; exact hnv.symm) <| .b rfl (by unfold numR; rw [if_neg (by omega), if_pos hE0, hnv]) <| .nil)
        · intro h12
          replace h12 := of_decide_eq_false h12
          have hnv : numV s = vT s (frm s) (s.size - frm s) := if_neg (by omega)
          refine Tr.skip ?_
          refine End.nxt ?_
          refine Tr.seq ?_
          refine Tr.rg ?_
          refine TrL.op (ok_move rfl (fun _ => rfl)) rfl rfl ?_
          refine TrL.op (ok_move rfl (fun _ => rfl)) rfl rfl ?_
          refine TrL.op (ok_call (fun hp => ct_Decimal _ (by omega) (by omega)) (.a rfl (fun _ => rfl) <| .nil)) rfl rfl ?_
          refine TrL.op (ok_move rfl (fun _ => rfl)) rfl rfl ?_
          refine TrL.op (ok_eqlS rfl (fun _ => rfl) rfl (fun _ => rfl)) rfl rfl ?_
          refine TrL.op (ok_assign rfl (fun _ => rfl)) rfl rfl ?_
          refine TrL.op (ok_assign rfl (fun _ => rfl)) rfl rfl ?_
          refine TrL.fin ?_
          refine End.nxt ?_
          refine Tr.ret ?_
          exact Rts.res (fn := Tryz.f53) (ts := [4, 5]) rfl rfl (.i rfl (by unfold numR; rw [if_neg (by omega), if_pos hE0]; exact hnv.symm) <| .b rfl (by unfold numR; rw [if_neg (by omega), if_pos hE0, hnv]) <| .nil)

set_option maxRecDepth 100000 in
theorem ct_rNumbers (l : List ByteArray) (hl : ∀ i, i < l.length → (nth l i).size ≤ 1000) (hn : 1 ≤ l.length ∧ l.length ≤ 1001) : Ct Tryz.prog 30 [kRd (eL eStr) l] (kTup [kRd (eL eI) (nmsR l).1, kB (nmsR l).2]) := by
  refine Ct.mk Tryz.func30 rfl Tryz.ntmps30 rfl (fun w J => ?_)
  refine Tr.seq ?_
  refine Tr.rg ?_
  refine TrL.op (ok_assign rfl (fun _ => rfl)) rfl rfl ?_
  refine TrL.op (ok_assign rfl (fun _ => rfl)) rfl rfl ?_
  refine TrL.fin ?_
  refine End.nxt ?_
  refine Tr.seq ?_
  refine Tr.rg ?_
  refine TrL.op (ok_assign rfl (fun _ => rfl)) rfl rfl ?_
  refine TrL.fin ?_
  refine End.nxt ?_
  refine Tr.seq ?_
  refine Tr.seq ?_
  refine Tr.rg ?_
  refine TrL.op (ok_assign rfl (fun _ => rfl)) rfl rfl ?_
  refine TrL.fin ?_
  refine End.nxt ?_
  refine Tr.grow (s := 4) rfl rfl 4 rfl 3 eI rfl ?_
  refine Tr.for1 (σ := Nat) [⟨0, true, _, _⟩] [] (fun k => [⟨4, true, [4], kOsl 4 k⟩, ⟨5, true, [], kI ((k + 1 : Nat) : Int)⟩]) (fun k => [⟨4, [], cArr true 3 eI (nmsT l k) k⟩]) (fun k => k ≤ l.length - 1 ∧ ∀ i, i < k → (numR (nth l (i + 1))).2 = true) (fun k => k + 1 = l.length ∧ ∀ i, i < l.length - 1 → (numR (nth l (i + 1))).2 = true) (fun k => l.length - 1 - k) (0) ⟨Nat.zero_le _, fun i h => absurd h (by omega)⟩ (Ent.mk (.o rfl (by first | rfl | omega | (simp; done) | (simp; omega) | assumption) rfl <| .i rfl (by first | rfl | omega | (simp; done) | (simp; omega) | assumption) <| .k rfl rfl <| .nil) (.a (by rfl) (by first | rfl | omega | (simp; done) | (simp; omega) | assumption) <| .nil) rfl) ?_ ?_
  · rintro k ⟨hk0, hR0⟩
    refine Tr.norm (S' := [⟨4, true, _, _⟩, ⟨5, true, _, _⟩, ⟨0, true, _, _⟩]) (M' := [⟨4, _, _⟩]) rfl rfl ?_
    have hlk := hl (k + 1)
    refine Tr.seq ?_
    refine Tr.seq ?_
    refine Tr.rg ?_
    refine TrL.op (ok_move rfl (fun _ => rfl)) rfl rfl ?_
    refine TrL.op (ok_move rfl (fun _ => rfl)) rfl rfl ?_
    refine TrL.op (ok_lenJ rfl (fun _ => rfl)) rfl rfl ?_
    refine TrL.op (ok_lss rfl (fun _ => rfl) rfl (fun _ => rfl)) rfl rfl ?_
    refine TrL.fin ?_
    refine End.nxt ?_
    refine Tr.cnd rfl ?_ ?_
    · intro h3
      replace h3 := of_decide_eq_true h3
      refine Tr.skip ?_
      refine End.nxt ?_
      refine Tr.seq ?_
      refine Tr.blk ?_
      refine Tr.seq ?_
      refine Tr.rg ?_
      refine TrL.op (ok_move rfl (fun _ => rfl)) rfl rfl ?_
      refine TrL.op (ok_move rfl (fun _ => rfl)) rfl rfl ?_
      first | refine TrL.op (ok_idxN rfl (fun _ => rfl) rfl (fun _ => rfl) rfl (fun _ => by omega)) rfl rfl ?_ | refine TrL.op (ok_idxP rfl (fun _ => rfl) rfl (fun _ => rfl) rfl (fun _ => by omega)) rfl rfl ?_
      refine TrL.op (ok_ldP rfl (fun _ => rfl) rfl) rfl rfl ?_
      refine TrL.op (ok_call (fun hp => ct_bNumber _ (by omega)) (.a rfl (fun _ => rfl) <| .a rfl (fun _ => rfl) <| .nil)) rfl rfl ?_
      refine TrL.op (ok_move rfl (fun _ => rfl)) rfl rfl ?_
      refine TrL.op (ok_ext rfl (fun _ => rfl) rfl) rfl rfl ?_
      refine TrL.op (ok_ext rfl (fun _ => rfl) rfl) rfl rfl ?_
      refine TrL.op (ok_assign rfl (fun _ => rfl)) rfl rfl ?_
      refine TrL.op (ok_assign rfl (fun _ => rfl)) rfl rfl ?_
      refine TrL.fin ?_
      refine End.nxt ?_
      refine Tr.seq ?_
      refine Tr.seq ?_
      refine Tr.rg ?_
      refine TrL.op (ok_move rfl (fun _ => rfl)) rfl rfl ?_
      refine TrL.op (ok_not rfl (fun _ => rfl)) rfl rfl ?_
      refine TrL.fin ?_
      refine End.nxt ?_
      refine Tr.cnd rfl ?_ ?_
      · intro h6
        try simp only [Bool.not_eq_true'] at h6
        have hno : ¬ ∀ k, k < l.length - 1 → (numR (nth l (k + 1))).2 = true := fun hh => by have := hh k (by omega); rw [h6] at this; cases this
        refine Tr.seq ?_
        refine Tr.rg ?_
        refine TrL.op (ok_assign rfl (fun _ => rfl)) rfl rfl ?_
        refine TrL.op (ok_assign rfl (fun _ => rfl)) rfl rfl ?_
        refine TrL.fin ?_
        refine End.nxt ?_
        refine Tr.ret ?_
        refine Rts.thn ?_
        refine Rts.out ?_
        refine Rts.thn ?_
        refine Rts.thn ?_
        refine Rts.out ?_
        refine Rts.thn ?_
        refine Rts.thn ?_
        exact Rts.res (fn := Tryz.f30) (ts := [2, 3]) rfl rfl (.n rfl (by unfold nmsR; rw [if_neg hno]) <| .b rfl (by unfold nmsR; rw [if_neg hno]) <| .nil)
      · intro h6
        try simp only [Bool.not_eq_false'] at h6
        refine Tr.skip ?_
        refine End.nxt ?_
        refine Tr.rg ?_
        refine TrL.op (ok_move rfl (fun _ => rfl)) rfl rfl ?_
        refine TrL.op (ok_move rfl (fun _ => rfl)) rfl rfl ?_
        refine TrL.new (ok_bsl eI 26 (fun hp => .cons rfl <| .nil) rfl rfl rfl rfl) rfl rfl rfl rfl ?_
        refine TrL.app rfl rfl rfl rfl rfl rfl rfl rfl (by first | omega | (simp only [List.length_cons, List.length_nil]; omega)) (by first | omega | (simp only [List.length_cons, List.length_nil]; omega)) ?_
        refine TrL.norm (S' := [⟨_, _, _, _⟩, ⟨_, _, _, _⟩, ⟨_, _, _, _⟩, ⟨_, _, _, _⟩, ⟨_, _, _, _⟩, ⟨_, _, _, _⟩, ⟨_, _, _, _⟩, ⟨_, _, _, _⟩, ⟨_, _, _, _⟩, ⟨_, _, _, _⟩, ⟨_, _, _, _⟩, ⟨_, _, _, _⟩, ⟨_, _, _, _⟩, ⟨_, _, _, _⟩, ⟨_, _, _, _⟩, ⟨_, _, _, _⟩, ⟨_, _, _, _⟩, ⟨_, _, _, _⟩, ⟨_, _, _, _⟩, ⟨_, _, _, _⟩, ⟨_, _, _, _⟩, ⟨_, _, _, _⟩, ⟨_, _, _, _⟩]) rfl rfl ?_
        refine TrL.op (ok_assign rfl (fun _ => rfl)) rfl rfl ?_
        refine TrL.fin ?_
        refine End.blk ?_
        refine End.nxt ?_
        refine Tr.rg ?_
        refine TrL.op (ok_move rfl (fun _ => rfl)) rfl rfl ?_
        refine TrL.op (ok_add rfl (fun _ => rfl) rfl (fun _ => rfl) (fun _ => by omega)) rfl rfl ?_
        refine TrL.op (ok_assign rfl (fun _ => rfl)) rfl rfl ?_
        refine TrL.fin ?_
        exact End.lp (k + 1) ⟨by omega, all_succ hR0 h6⟩ (by omega) (Ent.mk (.o rfl (by first | rfl | omega | (simp; done) | (simp; omega) | assumption) rfl <| .i rfl (by omega) <| .k rfl rfl <| .nil) (.a (nmsT_succ (by omega)) (by first | rfl | omega | (simp; done) | (simp; omega) | assumption) <| .nil) rfl)
    · intro h3
      replace h3 := Int.not_lt.1 (of_decide_eq_false h3)
      refine Tr.exit ?_
      refine Exs.thn ?_
      refine Exs.thn ?_
      refine Exs.here ?_
      exact End.cut (k) ⟨by omega, fun i hi => hR0 i (by omega)⟩ (Ent.mk (.o rfl (by first | rfl | omega | (simp; done) | (simp; omega) | assumption) rfl <| .i rfl (by first | rfl | omega | (simp; done) | (simp; omega) | assumption) <| .k rfl rfl <| .nil) (.a (by first | rfl | omega | (simp; done) | (simp; omega) | assumption) (by first | rfl | omega | (simp; done) | (simp; omega) | assumption) <| .nil) rfl)
  · rintro k ⟨hk1, hE0⟩
    refine End.norm (S' := [⟨4, true, _, _⟩, ⟨5, true, _, _⟩, ⟨0, true, _, _⟩]) (M' := [⟨4, _, _⟩]) rfl rfl ?_
    refine End.nxt ?_
    refine Tr.seq ?_
    refine Tr.rg ?_
    refine TrL.op (ok_move rfl (fun _ => rfl)) rfl rfl ?_
    refine TrL.op (ok_assign rfl (fun _ => rfl)) rfl rfl ?_
    refine TrL.op (ok_assign rfl (fun _ => rfl)) rfl rfl ?_
    refine TrL.fin ?_
    refine End.nxt ?_
    refine Tr.frz 4 [2] ⟨rfl, trivial⟩ (by simp only [lenMax]; omega) rfl ?_
    refine Tr.ret ?_
    exact Rts.res (fn := Tryz.f30) (ts := [2, 3]) rfl rfl (.r rfl (by unfold nmsR; rw [if_pos hE0]; exact nmsT_all (by omega)) <| .b rfl (by unfold nmsR; rw [if_pos hE0]) <| .nil)

set_option maxRecDepth 100000 in
set_option maxHeartbeats 1000000 in
theorem ct_rIsText (s : ByteArray) (hs : s.size ≤ 1000) : Ct Tryz.prog 12 [kS s] (kB (isTx s)) := by
  have hc1 : 1 ≤ (cutS s 10).length ∧ (cutS s 10).length ≤ s.size + 1 := cutT_len
  have hc2 : ∀ i, i < (cutS s 10).length → (nth (cutS s 10) i).size ≤ s.size := fun i hi => cutS_nth hi
  have hq : ∀ t : ByteArray, t.size ≤ s.size → (1 ≤ (cutS t 32).length ∧ (cutS t 32).length ≤ s.size + 1) ∧ ∀ i, i < (cutS t 32).length → (nth (cutS t 32) i).size ≤ 1000 := fun t ht => ⟨⟨cutT_len.1, Nat.le_trans cutT_len.2 (by omega)⟩, fun i hi => Nat.le_trans (cutS_nth hi) (by omega)⟩
  refine Ct.mk Tryz.func12 rfl Tryz.ntmps12 rfl (fun w J => ?_)
  refine Tr.seq ?_
  refine Tr.rg ?_
  refine TrL.op (ok_assign rfl (fun _ => rfl)) rfl rfl ?_
  refine TrL.fin ?_
  refine End.nxt ?_
  refine Tr.seq ?_
  refine Tr.rg ?_
  refine TrL.op (ok_move rfl (fun _ => rfl)) rfl rfl ?_
  refine TrL.op (ok_call (fun hp => ct_bCut s 10 (by omega)) (.a rfl (fun _ => rfl) <| .a rfl (fun _ => rfl) <| .nil)) rfl rfl ?_
  refine TrL.op (ok_assign rfl (fun _ => rfl)) rfl rfl ?_
  refine TrL.fin ?_
  refine End.nxt ?_
  refine Tr.seq ?_
  refine Tr.seq ?_
  refine Tr.rg ?_
  refine TrL.op (ok_move rfl (fun _ => rfl)) rfl rfl ?_
  refine TrL.op (ok_lenJ rfl (fun _ => rfl)) rfl rfl ?_
  refine TrL.op (ok_neq rfl (fun _ => rfl) rfl (fun _ => rfl)) rfl rfl ?_
  refine TrL.op (ok_move rfl (fun _ => rfl)) rfl rfl ?_
  refine TrL.gd rfl rfl rfl (ok_move rfl (fun _ => rfl)) rfl rfl ?_
  first | refine TrL.gd rfl rfl rfl (ok_idxN rfl id rfl (fun _ => rfl) rfl (fun hp => by simp at hp; omega)) rfl rfl ?_ | refine TrL.gd rfl rfl rfl (ok_idxP rfl id rfl (fun _ => rfl) rfl (fun hp => by simp at hp; omega)) rfl rfl ?_
  refine TrL.gd rfl rfl rfl (ok_ldP rfl id rfl) rfl rfl ?_
  refine TrL.gd rfl rfl rfl (ok_neqS rfl id rfl (fun _ => rfl)) rfl rfl ?_
  refine TrL.op (ok_or rfl (fun _ => rfl) rfl (fun hp h => gdF2 ((fun _ => rfl) hp) h)) rfl rfl ?_
  refine TrL.fin ?_
  refine End.nxt ?_
  refine Tr.cnd rfl ?_ ?_
  · intro h2
    try simp only [decide_eq_true_eq, Bool.or_eq_true, ne_eq] at h2
    have hb2 : (cutS s 10).length ≠ 3 ∨ nth (cutS s 10) 2 ≠ mkS [] := h2.imp (fun h => by omega) (fun h => h)
    refine Tr.seq ?_
    refine Tr.rg ?_
    refine TrL.op (ok_assign rfl (fun _ => rfl)) rfl rfl ?_
    refine TrL.fin ?_
    refine End.nxt ?_
    refine Tr.ret ?_
    refine Rts.thn ?_
    exact Rts.res1 (fn := Tryz.f12) rfl (.b rfl (by unfold isTx; rw [if_pos hb2]) <| .nil)
  · intro h2
    try simp only [decide_eq_false_iff_not, Bool.or_eq_false_iff, ne_eq, Classical.not_not] at h2
    have hb2 : ¬ ((cutS s 10).length ≠ 3 ∨ nth (cutS s 10) 2 ≠ mkS []) := fun hh => hh.elim (fun h => h (by omega)) (fun h => h h2.2)
    obtain ⟨hr1, hr2⟩ := hq (nth (cutS s 10) 0) (hc2 0 (by omega))
    obtain ⟨hu1, hu2⟩ := hq (nth (cutS s 10) 1) (hc2 1 (by omega))
    refine Tr.skip ?_
    refine End.nxt ?_
    refine Tr.seq ?_
    refine Tr.draw 7 mixed (by kernel_rfl) ?_
    refine RunD.op (ok_move rfl (fun _ => rfl)) rfl rfl ?_
    first | refine RunD.op (ok_idxN rfl (fun _ => rfl) rfl (fun _ => rfl) rfl (fun _ => by omega)) rfl rfl ?_ | refine RunD.op (ok_idxP rfl (fun _ => rfl) rfl (fun _ => rfl) rfl (fun _ => by omega)) rfl rfl ?_
    refine RunD.op (ok_ldP rfl (fun _ => rfl) rfl) rfl rfl ?_
    refine RunD.op (ok_call (fun hp => ct_bCut (nth (cutS s 10) 0) 32 (Nat.le_trans (hc2 0 (by omega)) (by omega))) (.a rfl (fun _ => rfl) <| .a rfl (fun _ => rfl) <| .nil)) rfl rfl ?_
    refine RunD.op (ok_move rfl (fun _ => rfl)) rfl rfl ?_
    first | refine RunD.op (ok_idxN rfl (fun _ => rfl) rfl (fun _ => rfl) rfl (fun _ => by omega)) rfl rfl ?_ | refine RunD.op (ok_idxP rfl (fun _ => rfl) rfl (fun _ => rfl) rfl (fun _ => by omega)) rfl rfl ?_
    refine RunD.op (ok_ldP rfl (fun _ => rfl) rfl) rfl rfl ?_
    refine RunD.z ?_
    refine TrL.op (ok_call (fun hp => ct_bCut (nth (cutS s 10) 1) 32 (Nat.le_trans (hc2 1 (by omega)) (by omega))) (.a rfl (fun _ => rfl) <| .a rfl (fun _ => rfl) <| .nil)) rfl rfl ?_
    refine TrL.op (ok_assign rfl (fun _ => rfl)) rfl rfl ?_
    refine TrL.op (ok_assign rfl (fun _ => rfl)) rfl rfl ?_
    refine TrL.fin ?_
    refine End.nxt ?_
    refine Tr.seq ?_
    refine Tr.seq ?_
    refine Tr.rg ?_
    refine TrL.op (ok_move rfl (fun _ => rfl)) rfl rfl ?_
    first | refine TrL.op (ok_idxN rfl (fun _ => rfl) rfl (fun _ => rfl) rfl (fun _ => by omega)) rfl rfl ?_ | refine TrL.op (ok_idxP rfl (fun _ => rfl) rfl (fun _ => rfl) rfl (fun _ => by omega)) rfl rfl ?_
    refine TrL.op (ok_ldP rfl (fun _ => rfl) rfl) rfl rfl ?_
    refine TrL.op (ok_neqS rfl (fun _ => rfl) rfl (fun _ => rfl)) rfl rfl ?_
    refine TrL.op (ok_move rfl (fun _ => rfl)) rfl rfl ?_
    refine TrL.gd rfl rfl rfl (ok_move rfl (fun _ => rfl)) rfl rfl ?_
    first | refine TrL.gd rfl rfl rfl (ok_idxN rfl id rfl (fun _ => rfl) rfl (fun hp => by simp at hp; omega)) rfl rfl ?_ | refine TrL.gd rfl rfl rfl (ok_idxP rfl id rfl (fun _ => rfl) rfl (fun hp => by simp at hp; omega)) rfl rfl ?_
    refine TrL.gd rfl rfl rfl (ok_ldP rfl id rfl) rfl rfl ?_
    refine TrL.gd rfl rfl rfl (ok_neqS rfl id rfl (fun _ => rfl)) rfl rfl ?_
    refine TrL.op (ok_or rfl (fun _ => rfl) rfl (fun hp h => gdF2 ((fun _ => rfl) hp) h)) rfl rfl ?_
    refine TrL.fin ?_
    refine End.nxt ?_
    refine Tr.cnd rfl ?_ ?_
    · intro h5
      try simp only [decide_eq_true_eq, Bool.or_eq_true, ne_eq] at h5
      have hb5 : nth (cutS (nth (cutS s 10) 0) 32) 0 ≠ mkS wR ∨ nth (cutS (nth (cutS s 10) 1) 32) 0 ≠ mkS wU := h5
      refine Tr.seq ?_
      refine Tr.rg ?_
      refine TrL.op (ok_assign rfl (fun _ => rfl)) rfl rfl ?_
      refine TrL.fin ?_
      refine End.nxt ?_
      refine Tr.ret ?_
      refine Rts.thn ?_
      exact Rts.res1 (fn := Tryz.f12) rfl (.b rfl (by unfold isTx; rw [if_neg hb2, if_pos hb5]) <| .nil)
    · intro h5
      try simp only [decide_eq_false_iff_not, Bool.or_eq_false_iff, ne_eq, Classical.not_not] at h5
      have hb5 : ¬ (nth (cutS (nth (cutS s 10) 0) 32) 0 ≠ mkS wR ∨ nth (cutS (nth (cutS s 10) 1) 32) 0 ≠ mkS wU) := fun hh => hh.elim (fun h => h h5.1) (fun h => h h5.2)
      refine Tr.skip ?_
      refine End.nxt ?_
      refine Tr.seq ?_
      refine Tr.rg ?_
      refine TrL.op (ok_move rfl (fun _ => rfl)) rfl rfl ?_
      refine TrL.op (ok_call (fun hp => ct_rNumbers _ hr2 (by omega)) (.a rfl (fun _ => rfl) <| .nil)) rfl rfl ?_
      refine TrL.op (ok_move rfl (fun _ => rfl)) rfl rfl ?_
      refine TrL.op (ok_ext rfl (fun _ => rfl) rfl) rfl rfl ?_
      refine TrL.op (ok_ext rfl (fun _ => rfl) rfl) rfl rfl ?_
      refine TrL.op (ok_assign rfl (fun _ => rfl)) rfl rfl ?_
      refine TrL.op (ok_assign rfl (fun _ => rfl)) rfl rfl ?_
      refine TrL.fin ?_
      refine End.nxt ?_
      refine Tr.seq ?_
      refine Tr.rg ?_
      refine TrL.op (ok_move rfl (fun _ => rfl)) rfl rfl ?_
      refine TrL.op (ok_call (fun hp => ct_rNumbers _ hu2 (by omega)) (.a rfl (fun _ => rfl) <| .nil)) rfl rfl ?_
      refine TrL.op (ok_move rfl (fun _ => rfl)) rfl rfl ?_
      refine TrL.op (ok_ext rfl (fun _ => rfl) rfl) rfl rfl ?_
      refine TrL.op (ok_ext rfl (fun _ => rfl) rfl) rfl rfl ?_
      refine TrL.op (ok_assign rfl (fun _ => rfl)) rfl rfl ?_
      refine TrL.op (ok_assign rfl (fun _ => rfl)) rfl rfl ?_
      refine TrL.fin ?_
      refine End.nxt ?_
      refine Tr.seq ?_
      refine Tr.rg ?_
      refine TrL.op (ok_move rfl (fun _ => rfl)) rfl rfl ?_
      refine TrL.op (ok_move rfl (fun _ => rfl)) rfl rfl ?_
      refine TrL.op (ok_build (fun hp => .cons rfl rfl rfl <| .cons rfl rfl rfl <| .nil)) rfl rfl ?_
      refine TrL.new (ok_alloc 10) rfl rfl rfl rfl ?_
      refine TrL.stB rfl rfl rfl rfl ?_
      refine TrL.fin ?_
      refine End.nxt ?_
      refine Tr.seq ?_
      refine Tr.rg ?_
      refine TrL.op (ok_move rfl (fun _ => rfl)) rfl rfl ?_
      refine TrL.op (ok_move rfl (fun _ => rfl)) rfl rfl ?_
      refine TrL.gd rfl rfl rfl (ok_move rfl (fun _ => rfl)) rfl rfl ?_
      refine TrL.op (ok_and rfl (fun _ => rfl) rfl (fun hp h => gdT2 ((fun _ => rfl) hp) h)) rfl rfl ?_
      refine TrL.op (ok_move rfl (fun _ => rfl)) rfl rfl ?_
      refine TrL.gd rfl rfl rfl (ok_ldBS rfl (fun _ => rfl)) rfl rfl ?_
      refine TrL.gd rfl rfl rfl (ok_call (fun hp => ct_rCheck (isO s)) (.s rfl id rfl <| .nil)) rfl rfl ?_
      refine TrL.gd rfl rfl rfl (ok_eql rfl id rfl (fun _ => rfl)) rfl rfl ?_
      refine TrL.op (ok_and rfl (fun _ => rfl) rfl (fun hp h => gdT2 ((fun _ => rfl) hp) h)) rfl rfl ?_
      refine TrL.op (ok_move rfl (fun _ => rfl)) rfl rfl ?_
      refine TrL.gd rfl rfl rfl (ok_ldBS rfl (fun _ => rfl)) rfl rfl ?_
      refine TrL.gd rfl rfl rfl (ok_call (fun hp => ct_rPrint (isO s) (valid_of (by simp at hp; exact hp.2))) (.s rfl id rfl <| .nil)) rfl rfl ?_
      refine TrL.gd rfl rfl rfl (ok_move rfl (fun _ => rfl)) rfl rfl ?_
      refine TrL.gd rfl rfl rfl (ok_eqlS rfl id rfl id) rfl rfl ?_
      refine TrL.op (ok_and rfl (fun _ => rfl) rfl (fun hp h => gdT2 ((fun _ => rfl) hp) h)) rfl rfl ?_
      refine TrL.op (ok_assign rfl (fun _ => rfl)) rfl rfl ?_
      refine TrL.fin ?_
      refine End.nxt ?_
      refine Tr.ret ?_
      exact Rts.res1 (fn := Tryz.f12) rfl (.b rfl (by unfold isTx; rw [if_neg hb2, if_neg hb5]) <| .nil)

end Go.Fl

/- Reading a text, step by step. Plain Lean, no program in sight. -/
namespace Go.Fl
theorem splitK_len {sep : Bt} : ∀ {k : Nat} {s : Bt}, (∀ x ∈ Lib.splitK sep 0 k s, x.length ≤ s.length) ∧ (Lib.splitK sep 0 k s).length ≤ k + 1 ∧ 1 ≤ (Lib.splitK sep 0 k s).length
  | 0, s => by simp [Lib.splitK]
  | k + 1, s => by
    unfold Lib.splitK
    split
    · simp
    · have ih := splitK_len (sep := sep) (k := k) (s := s.drop ((Lib.index s sep).toNat + sep.length))
      refine ⟨fun x hx => ?_, by simp only [List.length_cons]; omega, by simp only [List.length_cons]; omega⟩
      rcases List.mem_cons.1 hx with rfl | h
      · rw [List.length_take]; omega
      · have := ih.1 x h
        rw [List.length_drop] at this; omega
theorem trim_len {l p : Bt} : (Lib.trimSuffix l p).length ≤ l.length := by
  unfold Lib.trimSuffix
  split
  · rw [List.length_take]; omega
  · exact Nat.le_refl _
theorem nth_mkS {l : List Bt} {j : Nat} (h : j < l.length) : nth (l.map mkS) j = mkS (nth l j) := nth_map h
/-- The lines; a line without its end; its words; those behind the first one. -/
def LS (s : ByteArray) : List ByteArray := (lns (dS s)).map mkS
def trS (s : ByteArray) (j : Nat) : ByteArray := mkS (Lib.trimSuffix (dS (nth (LS s) j)) [10])
def splS (s : ByteArray) (j : Nat) : List ByteArray := (Lib.split (dS (trS s j)) [32]).map mkS
def WS (s : ByteArray) (j : Nat) : List ByteArray := (splS s j).drop 1
theorem LS_len {s : ByteArray} : 1 ≤ (LS s).length ∧ (LS s).length ≤ 2 := by
  unfold LS lns Lib.splitN
  have := splitK_len (sep := [10]) (k := min 2 ((dS s).length + 1) - 1) (s := dS s)
  rw [List.length_map]
  omega
theorem LS_size {s : ByteArray} {j : Nat} (h : j < (LS s).length) : (nth (LS s) j).size ≤ s.size := by
  have hj : j < (lns (dS s)).length := by rwa [LS, List.length_map] at h
  rw [LS, nth_mkS hj, mkS_size, ← dS_len]
  exact (splitK_len (sep := [10]) (k := min 2 ((dS s).length + 1) - 1) (s := dS s)).1 _ (nth_mem hj)
theorem trS_size {s : ByteArray} {j : Nat} (h : j < (LS s).length) : (trS s j).size ≤ s.size := by
  have h1 := LS_size h
  have h2 := trim_len (l := dS (nth (LS s) j)) (p := [10])
  rw [trS, mkS_size]
  rw [dS_len] at h2
  omega
theorem splS_len {s : ByteArray} {j : Nat} : 1 ≤ (splS s j).length ∧ (splS s j).length ≤ (trS s j).size + 1 := by
  have := splitK_len (sep := [32]) (k := Lib.count (dS (trS s j)) [32]) (s := dS (trS s j))
  have h2 : Lib.count (dS (trS s j)) [32] ≤ (trS s j).size := by rw [Lib.count_one, ← dS_len]; exact List.count_le_length
  rw [splS, List.length_map]
  unfold Lib.split
  omega
theorem WS_len {s : ByteArray} {j : Nat} (h : j < (LS s).length) : (WS s j).length ≤ s.size := by
  have h1 := splS_len (s := s) (j := j)
  have h2 := trS_size h
  rw [WS, List.length_drop]; omega
theorem WS_eq {s : ByteArray} {j : Nat} (h : j < (LS s).length) : WS s j = (wrds (nth (lns (dS s)) j)).map mkS := by
  have hj : j < (lns (dS s)).length := by rwa [LS, List.length_map] at h
  unfold WS splS trS
  rw [LS, nth_mkS hj, ← List.map_drop, List.drop_one]
  rfl
theorem WS_size {s : ByteArray} {j k : Nat} (h : j < (LS s).length) (hk : k < (WS s j).length) : (nth (WS s j) k).size ≤ s.size := by
  have h2 := trS_size h
  have hm : nth (WS s j) k ∈ splS s j := List.mem_of_mem_drop (nth_mem hk)
  obtain ⟨x, hx, he⟩ := List.mem_map.1 hm
  rw [← he, mkS_size]
  have := (splitK_len (sep := [32]) (k := Lib.count (dS (trS s j)) [32]) (s := dS (trS s j))).1 x hx
  rw [dS_len] at this
  omega
def okW (w : ByteArray) : Prop := atO (dS w) ≠ none
instance (w : ByteArray) : Decidable (okW w) := by unfold okW; infer_instance
def okL (s : ByteArray) (j k : Nat) : Prop := ∀ i, i < k → okW (nth (WS s j) i)
def okA (s : ByteArray) (j : Nat) : Prop := ∀ i, i < j → okL s i (WS s i).length
def vls (l : List ByteArray) : List Int := l.map fun x => atV (dS x)
def pR (s : ByteArray) (j k : Nat) : List Int := if j = 0 then vls ((WS s 0).take k) else vls (WS s 0)
def pU (s : ByteArray) (j k : Nat) : List Int := if j = 0 then [] else if j = 1 then vls ((WS s 1).take k) else vls (WS s 1)
theorem vls_succ {l : List ByteArray} {k : Nat} (h : k < l.length) : vls (l.take k) ++ [atV (dS (nth l k))] = vls (l.take (k + 1)) := by
  unfold vls
  rw [take_succ_nth h, List.map_append]
  rfl
theorem vls_len {l : List ByteArray} {k : Nat} : (vls (l.take k)).length ≤ l.length := by rw [vls, List.length_map, List.length_take]; omega
theorem pR_len {s : ByteArray} {j k : Nat} (hs : s.size ≤ 1000) : (pR s j k).length ≤ 1000 := by
  have h1 := WS_len (s := s) (j := 0) (by have := LS_len (s := s); omega)
  unfold pR
  split
  · have := vls_len (l := WS s 0) (k := k); omega
  · rw [vls, List.length_map]; omega
theorem pU_len {s : ByteArray} {j k : Nat} (hs : s.size ≤ 1000) (hj : 0 < j → 1 < (LS s).length) : (pU s j k).length ≤ 1000 := by
  unfold pU
  split
  · simp
  · have h1 := WS_len (s := s) (j := 1) (hj (by omega))
    split
    · have := vls_len (l := WS s 1) (k := k); omega
    · rw [vls, List.length_map]; omega
theorem pU_end {s : ByteArray} (hs : s.size ≤ 1000) : (pU s (LS s).length 0).length ≤ 1000 := by
  have hL := LS_len (s := s)
  unfold pU
  rw [if_neg (by omega : ¬ (LS s).length = 0)]
  split
  · rw [List.take_zero]; simp [vls]
  · have h1 := WS_len (s := s) (j := 1) (by omega)
    rw [vls, List.length_map]; omega
theorem pR_next {s : ByteArray} {j : Nat} : pR s j (WS s j).length = pR s (j + 1) 0 := by
  unfold pR
  rw [if_neg (by omega : ¬ j + 1 = 0)]
  split
  · rename_i h; subst h; rw [List.take_length]
  · rfl
theorem pU_next {s : ByteArray} {j : Nat} (hj : j < 2) : pU s j (WS s j).length = pU s (j + 1) 0 := by
  match j, hj with
  | 0, _ => rfl
  | 1, _ => simp [pU]
theorem pR_app {s : ByteArray} {k : Nat} (h : k < (WS s 0).length) : pR s 0 k ++ [atV (dS (nth (WS s 0) k))] = pR s 0 (k + 1) := vls_succ h
theorem pU_app {s : ByteArray} {k : Nat} (h : k < (WS s 1).length) : pU s 1 k ++ [atV (dS (nth (WS s 1) k))] = pU s 1 (k + 1) := vls_succ h
theorem pR_one {s : ByteArray} {j k k' : Nat} (h : j ≠ 0) : pR s j k = pR s j k' := by unfold pR; rw [if_neg h, if_neg h]
theorem okL_all {s : ByteArray} {j : Nat} (h : j < (LS s).length) : okL s j (WS s j).length ↔ allN (wrds (nth (lns (dS s)) j)) := by
  have e := WS_eq h
  constructor
  · intro hh w hw
    obtain ⟨i, hi, rfl⟩ := List.mem_iff_getElem.1 hw
    have hi' : i < (WS s j).length := by rw [e, List.length_map]; exact hi
    have := hh i hi'
    unfold okW at this
    rwa [e, nth_mkS hi, nth_of_get? (List.getElem?_eq_getElem hi)] at this
  · intro hh i hi
    have hi' : i < (wrds (nth (lns (dS s)) j)).length := by rwa [e, List.length_map] at hi
    unfold okW
    rw [e, nth_mkS hi']
    exact hh _ (nth_mem hi')
theorem okA_all {s : ByteArray} : okA s (LS s).length ↔ ∀ l ∈ lns (dS s), allN (wrds l) := by
  have hl : (LS s).length = (lns (dS s)).length := List.length_map _
  constructor
  · intro hh l hm
    obtain ⟨i, hi, rfl⟩ := List.mem_iff_getElem.1 hm
    have := (okL_all (by rw [hl]; exact hi)).1 (hh i (by rw [hl]; exact hi))
    rwa [nth_of_get? (List.getElem?_eq_getElem hi)] at this
  · intro hh i hi
    exact (okL_all hi).2 (hh _ (nth_mem (by rw [← hl]; exact hi)))
theorem vls_eq {s : ByteArray} {j : Nat} (h : j < (LS s).length) (ha : allN (wrds (nth (lns (dS s)) j))) : vls (WS s j) = (wrds (nth (lns (dS s)) j)).map wVal := by
  rw [WS_eq h, vls, List.map_map]
  exact List.map_congr_left fun w hw => atV_ok (ha w hw)
theorem rdO_some {s : ByteArray} (h : okA s (LS s).length) : rdO (dS s) = some (pR s (LS s).length 0, pU s (LS s).length 0) := by
  have ha := okA_all.1 h
  have hL := LS_len (s := s)
  have hl : (LS s).length = (lns (dS s)).length := List.length_map _
  have h0 : (lns (dS s)).headD [] = nth (lns (dS s)) 0 := by
    cases hh : lns (dS s) with
    | nil => rw [hh, List.length_nil] at hl; omega
    | cons a l => rfl
  unfold rdO
  rw [if_pos ha, h0, ← vls_eq (by omega) (ha _ (nth_mem (by omega)))]
  refine congrArg some (Prod.ext ?_ ?_)
  · show _ = pR s (LS s).length 0
    unfold pR; rw [if_neg (by omega : ¬ (LS s).length = 0)]
  · show (if _ then _ else _) = pU s (LS s).length 0
    unfold pU
    rw [if_neg (by omega : ¬ (LS s).length = 0)]
    by_cases h1 : 1 < (lns (dS s)).length
    · rw [if_pos h1, ← vls_eq (by omega) (ha _ (nth_mem h1)), if_neg (by omega)]
    · rw [if_neg h1, if_pos (by omega), List.take_zero]; rfl
theorem rdO_none {s : ByteArray} {j k : Nat} (hj : j < (LS s).length) (hk : k < (WS s j).length) (h : atO (dS (nth (WS s j) k)) = none) : rdO (dS s) = none := by
  unfold rdO
  rw [if_neg fun ha => okA_all.2 ha j hj k hk h]
theorem parR_large {s : ByteArray} (h : 1000 < s.size) : parR (dS s) = (([], []), 8) := by unfold parR; rw [if_pos (by rw [dS_len]; exact h)]
theorem parR_none {s : ByteArray} (hs : s.size ≤ 1000) (h : rdO (dS s) = none) : parR (dS s) = (([], []), 7) := by
  unfold parR
  rw [if_neg (by rw [dS_len]; omega), h]
theorem parR_some {s : ByteArray} {o : Ori} (hs : s.size ≤ 1000) (h : rdO (dS s) = some o) : parR (dS s) = if chkO o = 0 ∧ mkS (prt o) = s then (o, 0) else (([], []), 7) := by
  unfold parR
  rw [if_neg (by rw [dS_len]; omega), h]
  have : prt o = dS s ↔ mkS (prt o) = s := ⟨fun e => by rw [e]; rfl, fun e => by rw [← e]; rfl⟩
  simp only [this]
end Go.Fl

/- Contract: reading a text. -/
namespace Go.Fl
open Go Go.Proofs


theorem ct_SplitN' (s : ByteArray) (hs : s.size ≤ 1000) : CtG GV Tryz.prog 23 [kS s, kS (mkS [10]), kI 2] (kRd (eL eStr) (LS s)) := ct_SplitN s hs
theorem ct_Trim' (s : ByteArray) (j : Nat) (hs : s.size ≤ 1000) (hj : j < (LS s).length) : Ct Tryz.prog 25 [kS (nth (LS s) j), kS (mkS [10])] (kS (trS s j)) := ct_TrimSuffix _ (by have := LS_size hj; omega)
theorem ct_Split' (s : ByteArray) (j : Nat) (hs : s.size ≤ 1000) (hj : j < (LS s).length) : CtG GV Tryz.prog 24 [kS (trS s j), kS (mkS [32])] (kRd (eL eStr) (splS s j)) := ct_Split _ (by have := trS_size hj; omega)
instance : NB 41 42 := ⟨rfl⟩

set_option maxRecDepth 100000 in
set_option maxHeartbeats 1000000 in
theorem ct_oParse (s : ByteArray) : CtG GV Tryz.prog 8 [kS s] (kTup [kRd eO (parR (dS s)).1, kI (parR (dS s)).2]) := by
  refine CtG.mk Tryz.func8 rfl Tryz.ntmps8 rfl (fun w J hG => ?_)
  refine Tr.seq ?_
  refine Tr.rg ?_
  refine TrL.new (ok_alloc 2) rfl rfl rfl rfl ?_
  refine TrL.op (ok_assign rfl (fun _ => rfl)) rfl rfl ?_
  refine TrL.fin ?_
  refine End.nxt ?_
  refine Tr.seq ?_
  refine Tr.seq ?_
  refine Tr.rg ?_
  refine TrL.op (ok_move rfl (fun _ => rfl)) rfl rfl ?_
  refine TrL.op (ok_lenS rfl (fun _ => rfl)) rfl rfl ?_
  refine TrL.op (ok_gtr rfl (fun _ => rfl) rfl (fun _ => rfl)) rfl rfl ?_
  refine TrL.fin ?_
  refine End.nxt ?_
  refine Tr.cnd rfl ?_ ?_
  · intro h1
    replace h1 := of_decide_eq_true h1
    refine Tr.seq ?_
    refine Tr.rg ?_
    refine TrL.op (ok_build (fun hp => .nil)) rfl rfl ?_
    refine TrL.stB rfl rfl rfl rfl ?_
    refine TrL.op (ok_assign rfl (fun _ => rfl)) rfl rfl ?_
    refine TrL.fin ?_
    refine End.nxt ?_
    refine Tr.ret ?_
    refine Rts.thn ?_
    exact Rts.resC (fn := Tryz.f8) (ts := [3]) rfl rfl rfl (aggRd rfl (by rw [parR_large (by omega)])) (.i rfl (by rw [parR_large (by omega)]) <| .nil)
  · intro h1
    replace h1 := Int.not_lt.1 (of_decide_eq_false h1)
    refine Tr.skip ?_
    refine End.nxt ?_
    refine Tr.seq ?_
    refine Tr.rg ?_
    refine TrL.new (ok_alloc 4) rfl rfl rfl rfl ?_
    refine TrL.fin ?_
    refine End.nxt ?_
    refine Tr.seq ?_
    refine Tr.seq ?_
    refine Tr.rg ?_
    refine TrL.op (ok_move rfl (fun _ => rfl)) rfl rfl ?_
    refine TrL.op (ok_callG hG (fun _ => ct_SplitN' s (by omega)) (.a rfl (fun _ => rfl) <| .a rfl (fun _ => rfl) <| .a rfl (fun _ => rfl) <| .nil)) rfl rfl ?_
    refine TrL.op (ok_lenJ rfl (fun _ => rfl)) rfl rfl ?_
    refine TrL.op (ok_move rfl (fun _ => rfl)) rfl rfl ?_
    refine TrL.fin ?_
    refine End.nxt ?_
    refine Tr.growC 4 0 41 rfl (ks' := [kOsl 41 0, _]) rfl rfl 3 eI rfl (.cons inferInstance rfl <| .cons inferInstance rfl <| inferInstance) ?_
    refine Tr.growC 4 1 42 rfl (ks' := [_, kOsl 42 0]) rfl rfl 3 eI rfl (.cons inferInstance rfl <| .cons inferInstance rfl <| inferInstance) ?_
    refine Tr.for1 (σ := Nat) [⟨0, true, _, _⟩, ⟨2, true, _, _⟩, ⟨4, true, _, _⟩, ⟨18, true, _, _⟩, ⟨19, true, _, _⟩] [] (fun j => [⟨20, true, [], kI (j : Int)⟩]) (fun j => [⟨2, [], cBlk [kDet (.slice none 0 0), kDet (.slice none 0 0)]⟩, ⟨4, [41, 42], cBlk [kOsl 41 (pR s j 0).length, kOsl 42 (pU s j 0).length]⟩, ⟨41, [], cArr true 3 eI (pR s j 0) (pR s j 0).length⟩, ⟨42, [], cArr true 3 eI (pU s j 0) (pU s j 0).length⟩]) (fun j => j ≤ (LS s).length ∧ okA s j) (fun j => j = (LS s).length ∧ okA s (LS s).length) (fun j => (LS s).length - j) (0) ⟨Nat.zero_le _, fun i h => absurd h (by omega)⟩ (Ent.mk (.i rfl (by first | rfl | omega | (simp; done) | (simp; omega) | assumption) <| .k rfl rfl <| .k rfl rfl <| .k rfl rfl <| .k rfl rfl <| .k rfl rfl <| .nil) (.k rfl <| .e (by rfl) rfl <| .a (by rfl) (by first | rfl | omega | (simp; done) | (simp; omega) | assumption) <| .a (by rfl) (by first | rfl | omega | (simp; done) | (simp; omega) | assumption) <| .nil) rfl) ?_ ?_
    · rintro j ⟨hj0, hA0⟩
      refine Tr.norm (S' := [⟨20, true, _, _⟩, ⟨0, true, _, _⟩, ⟨2, true, _, _⟩, ⟨4, true, _, _⟩, ⟨18, true, _, _⟩, ⟨19, true, _, _⟩]) (M' := [⟨2, _, _⟩, ⟨4, _, _⟩, ⟨41, _, _⟩, ⟨42, _, _⟩]) rfl rfl ?_
      have hLl := LS_len (s := s)
      refine Tr.seq ?_
      refine Tr.rg ?_
      refine TrL.op (ok_lss rfl (fun _ => rfl) rfl (fun _ => rfl)) rfl rfl ?_
      refine TrL.fin ?_
      refine End.nxt ?_
      refine Tr.seq ?_
      refine Tr.cnd rfl ?_ ?_
      · intro h5
        replace h5 := of_decide_eq_true h5
        refine Tr.skip ?_
        refine End.nxt ?_
        refine Tr.seq ?_
        refine Tr.blk ?_
        refine Tr.seq ?_
        refine Tr.rg ?_
        refine TrL.op (ok_move rfl (fun _ => rfl)) rfl rfl ?_
        first | refine TrL.op (ok_idxN rfl (fun _ => rfl) rfl (fun _ => rfl) rfl (fun _ => by omega)) rfl rfl ?_ | refine TrL.op (ok_idxP rfl (fun _ => rfl) rfl (fun _ => rfl) rfl (fun _ => by omega)) rfl rfl ?_
        refine TrL.op (ok_ldP rfl (fun _ => rfl) rfl) rfl rfl ?_
        refine TrL.op (ok_assign rfl (fun _ => rfl)) rfl rfl ?_
        refine TrL.op (ok_assign rfl (fun _ => rfl)) rfl rfl ?_
        refine TrL.fin ?_
        refine End.nxt ?_
        refine Tr.seq ?_
        refine Tr.rg ?_
        refine TrL.op (ok_move rfl (fun _ => rfl)) rfl rfl ?_
        refine TrL.op (ok_call (fun _ => ct_Trim' s j (by omega) (by omega)) (.a rfl (fun _ => rfl) <| .a rfl (fun _ => rfl) <| .nil)) rfl rfl ?_
        refine TrL.op (ok_callG hG (fun _ => ct_Split' s j (by omega) (by omega)) (.a rfl (fun _ => rfl) <| .a rfl (fun _ => rfl) <| .nil)) rfl rfl ?_
        refine TrL.op (ok_slJl1 (ys := WS s j) rfl (fun _ => rfl) rfl (fun _ => splS_len.1) rfl) rfl rfl ?_
        refine TrL.op (ok_lenJ rfl (fun _ => rfl)) rfl rfl ?_
        refine TrL.op (ok_move rfl (fun _ => rfl)) rfl rfl ?_
        refine TrL.fin ?_
        refine End.nxt ?_
        refine Tr.for1 (σ := Nat) [⟨0, true, _, _⟩, ⟨2, true, _, _⟩, ⟨4, true, _, _⟩, ⟨5, true, _, _⟩, ⟨18, true, _, _⟩, ⟨19, true, _, _⟩, ⟨20, true, _, _⟩, ⟨28, true, _, _⟩, ⟨29, true, _, _⟩] [] (fun k => [⟨30, true, [], kI (k : Int)⟩]) (fun k => [⟨2, [], cBlk [kDet (.slice none 0 0), kDet (.slice none 0 0)]⟩, ⟨4, [41, 42], cBlk [kOsl 41 (pR s j k).length, kOsl 42 (pU s j k).length]⟩, ⟨41, [], cArr true 3 eI (pR s j k) (pR s j k).length⟩, ⟨42, [], cArr true 3 eI (pU s j k) (pU s j k).length⟩]) (fun k => k ≤ (WS s j).length ∧ okL s j k) (fun k => k = (WS s j).length ∧ okL s j (WS s j).length) (fun k => (WS s j).length - k) (0) ⟨Nat.zero_le _, fun i h => absurd h (by omega)⟩ (Ent.mk (.i rfl (by first | rfl | omega | (simp; done) | (simp; omega) | assumption) <| .k rfl rfl <| .k rfl rfl <| .k rfl rfl <| .k rfl rfl <| .k rfl rfl <| .k rfl rfl <| .k rfl rfl <| .k rfl rfl <| .k rfl rfl <| .nil) (.k rfl <| .k rfl <| .a (by first | rfl | omega | (simp; done) | (simp; omega) | assumption) (by first | rfl | omega | (simp; done) | (simp; omega) | assumption) <| .a (by first | rfl | omega | (simp; done) | (simp; omega) | assumption) (by first | rfl | omega | (simp; done) | (simp; omega) | assumption) <| .nil) rfl) ?_ ?_
        · rintro k ⟨hk0, hL0⟩
          refine Tr.norm (S' := [⟨30, true, _, _⟩, ⟨0, true, _, _⟩, ⟨2, true, _, _⟩, ⟨4, true, _, _⟩, ⟨5, true, _, _⟩, ⟨18, true, _, _⟩, ⟨19, true, _, _⟩, ⟨20, true, _, _⟩, ⟨28, true, _, _⟩, ⟨29, true, _, _⟩]) (M' := [⟨2, _, _⟩, ⟨4, _, _⟩, ⟨41, _, _⟩, ⟨42, _, _⟩]) rfl rfl ?_
          have hpl := pR_len (s := s) (j := j) (k := k) (by omega)
          have hul := pU_len (s := s) (j := j) (k := k) (by omega) (by omega)
          refine Tr.seq ?_
          refine Tr.rg ?_
          refine TrL.op (ok_lss rfl (fun _ => rfl) rfl (fun _ => rfl)) rfl rfl ?_
          refine TrL.fin ?_
          refine End.nxt ?_
          refine Tr.seq ?_
          refine Tr.cnd rfl ?_ ?_
          · intro h8
            replace h8 := of_decide_eq_true h8
            refine Tr.skip ?_
            refine End.nxt ?_
            refine Tr.seq ?_
            refine Tr.blk ?_
            refine Tr.seq ?_
            refine Tr.rg ?_
            have hjl : j < (LS s).length := by omega
            have hkl : k < (WS s j).length := by omega
            have hwl := WS_len hjl
            first | refine TrL.op (ok_idxN rfl (fun _ => rfl) rfl (fun _ => rfl) rfl (fun _ => by omega)) rfl rfl ?_ | refine TrL.op (ok_idxP rfl (fun _ => rfl) rfl (fun _ => rfl) rfl (fun _ => by omega)) rfl rfl ?_
            refine TrL.op (ok_ldP rfl (fun _ => rfl) rfl) rfl rfl ?_
            refine TrL.op (ok_assign rfl (fun _ => rfl)) rfl rfl ?_
            refine TrL.fin ?_
            refine End.nxt ?_
            refine Tr.seq ?_
            refine Tr.rg ?_
            refine TrL.op (ok_move rfl (fun _ => rfl)) rfl rfl ?_
            refine TrL.op (ok_callG hG (fun _ => ct_Atoi (nth (WS s j) k) (by have := WS_size hjl hkl; omega)) (.a rfl (fun _ => rfl) <| .nil)) rfl rfl ?_
            refine TrL.op (ok_move rfl (fun _ => rfl)) rfl rfl ?_
            refine TrL.op (ok_ext rfl (fun _ => rfl) rfl) rfl rfl ?_
            refine TrL.op (ok_ext rfl (fun _ => rfl) rfl) rfl rfl ?_
            refine TrL.op (ok_assign rfl (fun _ => rfl)) rfl rfl ?_
            refine TrL.op (ok_assign rfl (fun _ => rfl)) rfl rfl ?_
            refine TrL.fin ?_
            refine End.nxt ?_
            refine Tr.seq ?_
            refine Tr.seq ?_
            refine Tr.rg ?_
            refine TrL.op (ok_move rfl (fun _ => rfl)) rfl rfl ?_
            refine TrL.op (ok_neqNilE (by kernel_rfl) rfl (fun _ => rfl)) rfl rfl ?_
            refine TrL.fin ?_
            refine End.nxt ?_
            refine Tr.cnd rfl ?_ ?_
            · intro h11
              try simp only [decide_eq_true_eq] at h11
              have hrn : rdO (dS s) = none := rdO_none hjl hkl h11
              refine Tr.seq ?_
              refine Tr.rg ?_
              refine TrL.op (ok_build (fun hp => .nil)) rfl rfl ?_
              refine TrL.stB rfl rfl rfl rfl ?_
              refine TrL.op (ok_assign rfl (fun _ => rfl)) rfl rfl ?_
              refine TrL.fin ?_
              refine End.nxt ?_
              refine Tr.ret ?_
              refine Rts.thn ?_
              refine Rts.out ?_
              refine Rts.thn ?_
              refine Rts.thn ?_
              refine Rts.out ?_
              refine Rts.thn ?_
              refine Rts.out ?_
              refine Rts.thn ?_
              refine Rts.thn ?_
              refine Rts.out ?_
              refine Rts.thn ?_
              refine Rts.thn ?_
              exact Rts.resC (fn := Tryz.f8) (ts := [3]) rfl rfl rfl (aggRd rfl (by rw [parR_none (by omega) hrn])) (.i rfl (by rw [parR_none (by omega) hrn]) <| .nil)
            · intro h11
              try simp only [decide_eq_false_iff_not] at h11
              have hok : okW (nth (WS s j) k) := h11
              refine Tr.skip ?_
              refine End.nxt ?_
              refine Tr.seq ?_
              refine Tr.rg ?_
              refine TrL.op (ok_move rfl (fun _ => rfl)) rfl rfl ?_
              refine TrL.op (ok_eql rfl (fun _ => rfl) rfl (fun _ => rfl)) rfl rfl ?_
              refine TrL.fin ?_
              refine End.nxt ?_
              refine Tr.cnd rfl ?_ ?_
              · intro h13
                replace h13 := of_decide_eq_true h13
                have e1 : pR s j k ++ [atV (dS (nth (WS s j) k))] = pR s j (k + 1) := by obtain rfl : j = 0 := (by omega); exact pR_app hkl
                have e2 : pU s j k = pU s j (k + 1) := by obtain rfl : j = 0 := (by omega); rfl
                have e1l : (pR s j k).length + [atV (dS (nth (WS s j) k))].length = (pR s j (k + 1)).length := by rw [← e1, List.length_append]
                have e2l : (pU s j k).length = (pU s j (k + 1)).length := by rw [← e2]
                refine Tr.rg ?_
                refine TrL.op (ok_fldO rfl (fun _ => rfl)) rfl rfl ?_
                refine TrL.op (ok_ldB rfl (fun _ => rfl) rfl) rfl rfl ?_
                refine TrL.op (ok_move rfl (fun _ => rfl)) rfl rfl ?_
                refine TrL.new (ok_bsl eI 47 (fun hp => .cons rfl <| .nil) rfl rfl rfl rfl) rfl rfl rfl rfl ?_
                refine TrL.wkC 4 (.any <| .k <| .nil) rfl ?_
                refine TrL.app rfl rfl rfl rfl rfl rfl rfl rfl (by first | omega | (simp only [List.length_cons, List.length_nil]; omega)) (by first | omega | (simp only [List.length_cons, List.length_nil]; omega)) ?_
                refine TrL.norm (S' := ⟨_, _, _, _⟩ :: ⟨_, _, _, _⟩ :: ⟨_, _, _, _⟩ :: ⟨_, _, _, _⟩ :: ⟨_, _, _, _⟩ :: ⟨_, _, _, _⟩ :: ⟨_, _, _, _⟩ :: ⟨_, _, _, _⟩ :: ⟨_, _, _, _⟩ :: ⟨_, _, _, _⟩ :: ⟨_, _, _, _⟩ :: ⟨_, _, _, _⟩ :: ⟨_, _, _, _⟩ :: ⟨_, _, _, _⟩ :: ⟨_, _, _, _⟩ :: ⟨_, _, _, _⟩ :: ⟨_, _, _, _⟩ :: ⟨_, _, _, _⟩ :: ⟨_, _, _, _⟩ :: ⟨_, _, _, _⟩ :: ⟨_, _, _, _⟩ :: ⟨_, _, _, _⟩ :: ⟨_, _, _, _⟩ :: ⟨_, _, _, _⟩ :: ⟨_, _, _, _⟩ :: ⟨_, _, _, _⟩ :: ⟨_, _, _, _⟩ :: ⟨_, _, _, _⟩ :: ⟨_, _, _, _⟩ :: ⟨_, _, _, _⟩ :: []) rfl rfl ?_
                refine TrL.op (ok_fldO rfl (fun _ => rfl)) rfl rfl ?_
                refine TrL.stB rfl rfl rfl rfl ?_
                refine TrL.fin ?_
                refine End.blk ?_
                refine End.nxt ?_
                refine Tr.rg ?_
                refine TrL.op (ok_add rfl (fun _ => rfl) rfl (fun _ => rfl) (fun _ => by omega)) rfl rfl ?_
                refine TrL.op (ok_move rfl (fun _ => rfl)) rfl rfl ?_
                refine TrL.fin ?_
                exact End.lp (k + 1) ⟨by omega, all_succ hL0 hok⟩ (by omega) (Ent.mk (.i rfl (by first | rfl | omega | (simp; done) | (simp; omega) | assumption) <| .k rfl rfl <| .k rfl rfl <| .k rfl rfl <| .k rfl rfl <| .k rfl rfl <| .k rfl rfl <| .k rfl rfl <| .k rfl rfl <| .k rfl rfl <| .nil) (.k rfl <| .e (by rw [← e1l, ← e2l]) rfl <| .a e1 e1l <| .a e2 e2l <| .nil) rfl)
              · intro h13
                replace h13 := of_decide_eq_false h13
                have e2 : pU s j k ++ [atV (dS (nth (WS s j) k))] = pU s j (k + 1) := by obtain rfl : j = 1 := (by omega); exact pU_app hkl
                have e1 : pR s j k = pR s j (k + 1) := pR_one (by omega)
                have e2l : (pU s j k).length + [atV (dS (nth (WS s j) k))].length = (pU s j (k + 1)).length := by rw [← e2, List.length_append]
                have e1l : (pR s j k).length = (pR s j (k + 1)).length := by rw [← e1]
                refine Tr.rg ?_
                refine TrL.op (ok_fldO rfl (fun _ => rfl)) rfl rfl ?_
                refine TrL.op (ok_ldB rfl (fun _ => rfl) rfl) rfl rfl ?_
                refine TrL.op (ok_move rfl (fun _ => rfl)) rfl rfl ?_
                refine TrL.new (ok_bsl eI 53 (fun hp => .cons rfl <| .nil) rfl rfl rfl rfl) rfl rfl rfl rfl ?_
                refine TrL.wkC 4 (.k <| .any <| .nil) rfl ?_
                refine TrL.app rfl rfl rfl rfl rfl rfl rfl rfl (by first | omega | (simp only [List.length_cons, List.length_nil]; omega)) (by first | omega | (simp only [List.length_cons, List.length_nil]; omega)) ?_
                refine TrL.norm (S' := ⟨_, _, _, _⟩ :: ⟨_, _, _, _⟩ :: ⟨_, _, _, _⟩ :: ⟨_, _, _, _⟩ :: ⟨_, _, _, _⟩ :: ⟨_, _, _, _⟩ :: ⟨_, _, _, _⟩ :: ⟨_, _, _, _⟩ :: ⟨_, _, _, _⟩ :: ⟨_, _, _, _⟩ :: ⟨_, _, _, _⟩ :: ⟨_, _, _, _⟩ :: ⟨_, _, _, _⟩ :: ⟨_, _, _, _⟩ :: ⟨_, _, _, _⟩ :: ⟨_, _, _, _⟩ :: ⟨_, _, _, _⟩ :: ⟨_, _, _, _⟩ :: ⟨_, _, _, _⟩ :: ⟨_, _, _, _⟩ :: ⟨_, _, _, _⟩ :: ⟨_, _, _, _⟩ :: ⟨_, _, _, _⟩ :: ⟨_, _, _, _⟩ :: ⟨_, _, _, _⟩ :: ⟨_, _, _, _⟩ :: ⟨_, _, _, _⟩ :: ⟨_, _, _, _⟩ :: ⟨_, _, _, _⟩ :: ⟨_, _, _, _⟩ :: []) rfl rfl ?_
                refine TrL.op (ok_fldO rfl (fun _ => rfl)) rfl rfl ?_
                refine TrL.stB rfl rfl rfl rfl ?_
                refine TrL.fin ?_
                refine End.blk ?_
                refine End.nxt ?_
                refine Tr.rg ?_
                refine TrL.op (ok_add rfl (fun _ => rfl) rfl (fun _ => rfl) (fun _ => by omega)) rfl rfl ?_
                refine TrL.op (ok_move rfl (fun _ => rfl)) rfl rfl ?_
                refine TrL.fin ?_
                exact End.lp (k + 1) ⟨by omega, all_succ hL0 hok⟩ (by omega) (Ent.mk (.i rfl (by first | rfl | omega | (simp; done) | (simp; omega) | assumption) <| .k rfl rfl <| .k rfl rfl <| .k rfl rfl <| .k rfl rfl <| .k rfl rfl <| .k rfl rfl <| .k rfl rfl <| .k rfl rfl <| .k rfl rfl <| .nil) (.k rfl <| .e (by rw [← e1l, ← e2l]) rfl <| .a e1 e1l <| .a e2 e2l <| .nil) rfl)
          · intro h8
            replace h8 := Int.not_lt.1 (of_decide_eq_false h8)
            refine Tr.exit ?_
            refine Exs.thn ?_
            refine Exs.thn ?_
            refine Exs.here ?_
            exact End.cut (k) ⟨by omega, by rwa [show (WS s j).length = k by omega]⟩ (Ent.mk (.i rfl (by first | rfl | omega | (simp; done) | (simp; omega) | assumption) <| .k rfl rfl <| .k rfl rfl <| .k rfl rfl <| .k rfl rfl <| .k rfl rfl <| .k rfl rfl <| .k rfl rfl <| .k rfl rfl <| .k rfl rfl <| .nil) (.k rfl <| .k rfl <| .a (by first | rfl | omega | (simp; done) | (simp; omega) | assumption) (by first | rfl | omega | (simp; done) | (simp; omega) | assumption) <| .a (by first | rfl | omega | (simp; done) | (simp; omega) | assumption) (by first | rfl | omega | (simp; done) | (simp; omega) | assumption) <| .nil) rfl)
        · rintro _ ⟨rfl, hE1⟩
          refine End.norm (S' := [⟨30, true, _, _⟩, ⟨0, true, _, _⟩, ⟨2, true, _, _⟩, ⟨4, true, _, _⟩, ⟨5, true, _, _⟩, ⟨18, true, _, _⟩, ⟨19, true, _, _⟩, ⟨20, true, _, _⟩, ⟨28, true, _, _⟩, ⟨29, true, _, _⟩]) (M' := [⟨2, _, _⟩, ⟨4, _, _⟩, ⟨41, _, _⟩, ⟨42, _, _⟩]) rfl rfl ?_
          refine End.blk ?_
          refine End.nxt ?_
          refine Tr.rg ?_
          refine TrL.op (ok_add rfl (fun _ => rfl) rfl (fun _ => rfl) (fun _ => by omega)) rfl rfl ?_
          refine TrL.op (ok_move rfl (fun _ => rfl)) rfl rfl ?_
          refine TrL.fin ?_
          exact End.lp (j + 1) ⟨by omega, all_succ hA0 hE1⟩ (by omega) (Ent.mk (.i rfl (by first | rfl | omega | (simp; done) | (simp; omega) | assumption) <| .k rfl rfl <| .k rfl rfl <| .k rfl rfl <| .k rfl rfl <| .k rfl rfl <| .nil) (.k rfl <| .e (by rw [pR_next, pU_next (by omega)]) rfl <| .a pR_next (by rw [pR_next]) <| .a (pU_next (by omega)) (by rw [pU_next (by omega)]) <| .nil) rfl)
      · intro h5
        replace h5 := Int.not_lt.1 (of_decide_eq_false h5)
        refine Tr.exit ?_
        refine Exs.thn ?_
        refine Exs.thn ?_
        refine Exs.here ?_
        exact End.cut (j) ⟨by omega, by rwa [show (LS s).length = j by omega]⟩ (Ent.mk (.i rfl (by first | rfl | omega | (simp; done) | (simp; omega) | assumption) <| .k rfl rfl <| .k rfl rfl <| .k rfl rfl <| .k rfl rfl <| .k rfl rfl <| .nil) (.k rfl <| .k rfl <| .a (by first | rfl | omega | (simp; done) | (simp; omega) | assumption) (by first | rfl | omega | (simp; done) | (simp; omega) | assumption) <| .a (by first | rfl | omega | (simp; done) | (simp; omega) | assumption) (by first | rfl | omega | (simp; done) | (simp; omega) | assumption) <| .nil) rfl)
    · rintro _ ⟨rfl, hE0⟩
      refine End.norm (S' := [⟨20, true, _, _⟩, ⟨0, true, _, _⟩, ⟨2, true, _, _⟩, ⟨4, true, _, _⟩, ⟨18, true, _, _⟩, ⟨19, true, _, _⟩]) (M' := [⟨2, _, _⟩, ⟨4, _, _⟩, ⟨41, _, _⟩, ⟨42, _, _⟩]) rfl rfl ?_
      have hrd := rdO_some hE0
      have hps := parR_some (s := s) (by omega) hrd
      have hpl := pR_len (s := s) (j := (LS s).length) (k := 0) (by omega)
      have hul := pU_end (s := s) (by omega)
      refine End.nxt ?_
      refine Tr.seq ?_
      refine Tr.seq ?_
      refine Tr.frzC 41 4 (by simp only [lenMax]; omega) rfl rfl ?_
      refine Tr.frzC 42 4 (by simp only [lenMax]; omega) rfl rfl ?_
      refine Tr.norm (S' := [⟨_, _, _, _⟩, ⟨_, _, _, _⟩, ⟨_, _, _, _⟩, ⟨_, _, _, _⟩, ⟨_, _, _, _⟩, ⟨_, _, _, _⟩]) (M' := [⟨_, _, _⟩, ⟨_, _, _⟩]) rfl rfl ?_
      refine Tr.rg ?_
      refine TrL.op (ok_ldBS rfl (fun _ => rfl)) rfl rfl ?_
      refine TrL.op (ok_call (fun hp => ct_oPrint _) (.s rfl (fun _ => rfl) rfl <| .nil)) rfl rfl ?_
      refine TrL.op (ok_move rfl (fun _ => rfl)) rfl rfl ?_
      refine TrL.op (ok_ext rfl (fun _ => rfl) rfl) rfl rfl ?_
      refine TrL.op (ok_ext rfl (fun _ => rfl) rfl) rfl rfl ?_
      refine TrL.op (ok_assign rfl (fun _ => rfl)) rfl rfl ?_
      refine TrL.op (ok_assign rfl (fun _ => rfl)) rfl rfl ?_
      refine TrL.fin ?_
      refine End.nxt ?_
      refine Tr.seq ?_
      refine Tr.rg ?_
      refine TrL.op (ok_move rfl (fun _ => rfl)) rfl rfl ?_
      refine TrL.op (ok_neq rfl (fun _ => rfl) rfl (fun _ => rfl)) rfl rfl ?_
      refine TrL.op (ok_move rfl (fun _ => rfl)) rfl rfl ?_
      refine TrL.gd rfl rfl rfl (ok_move rfl (fun _ => rfl)) rfl rfl ?_
      refine TrL.gd rfl rfl rfl (ok_move rfl (fun _ => rfl)) rfl rfl ?_
      refine TrL.gd rfl rfl rfl (ok_neqS rfl id rfl id) rfl rfl ?_
      refine TrL.op (ok_or rfl (fun _ => rfl) rfl (fun hp h => gdF2 ((fun _ => rfl) hp) h)) rfl rfl ?_
      refine TrL.fin ?_
      refine End.nxt ?_
      refine Tr.cnd rfl ?_ ?_
      · intro h19
        try simp only [decide_eq_true_eq, Bool.or_eq_true, ne_eq] at h19
        rw [if_neg (fun hh => h19.elim (fun h => h hh.1) (fun h => h (by rw [if_pos hh.1]; exact hh.2)))] at hps
        refine Tr.seq ?_
        refine Tr.rg ?_
        refine TrL.op (ok_build (fun hp => .nil)) rfl rfl ?_
        refine TrL.stB rfl rfl rfl rfl ?_
        refine TrL.op (ok_assign rfl (fun _ => rfl)) rfl rfl ?_
        refine TrL.fin ?_
        refine End.nxt ?_
        refine Tr.ret ?_
        refine Rts.thn ?_
        exact Rts.resC (fn := Tryz.f8) (ts := [3]) rfl rfl rfl (aggRd rfl (by rw [hps])) (.i rfl (by rw [hps]) <| .nil)
      · intro h19
        try simp only [decide_eq_false_iff_not, Bool.or_eq_false_iff, ne_eq, Classical.not_not] at h19
        rw [if_pos ⟨h19.1, by have := h19.2; rwa [if_pos h19.1] at this⟩] at hps
        refine Tr.skip ?_
        refine End.nxt ?_
        refine Tr.seq ?_
        refine Tr.rg ?_
        refine TrL.op (ok_ldBS rfl (fun _ => rfl)) rfl rfl ?_
        refine TrL.stB rfl rfl rfl rfl ?_
        refine TrL.op (ok_assign rfl (fun _ => rfl)) rfl rfl ?_
        refine TrL.fin ?_
        refine End.nxt ?_
        refine Tr.ret ?_
        exact Rts.resC (fn := Tryz.f8) (ts := [3]) rfl rfl rfl (aggRd rfl (by rw [hps])) (.i rfl (by rw [hps]) <| .nil)

end Go.Fl

/- Contract: the law of texts. -/
namespace Go.Fl
open Go Go.Proofs


theorem isTx_bad {s : ByteArray} (h : (parR (dS s)).2 ≠ 0) : isTx s = false := by
  cases hh : isTx s with
  | false => rfl
  | true =>
    obtain ⟨h1, h2⟩ := isTx_sound hh
    have h3 : prt (isO s) = dS s := congrArg dS h2
    rw [← h3, parR_prt (valid_of h1)] at h
    exact absurd rfl h

set_option maxRecDepth 100000 in
set_option maxHeartbeats 1000000 in
theorem ct_OrigamiTexts (o : Ori) (s : ByteArray) : CtG GV Tryz.prog 3 [kRd eO o, kS s] (kB true) := by
  refine CtG.mk Tryz.func3 rfl Tryz.ntmps3 rfl (fun w J hG => ?_)
  refine Tr.seq ?_
  refine Tr.rg ?_
  refine TrL.new (ok_box 2 rfl (fun _ => rfl) rfl) rfl rfl rfl rfl ?_
  refine TrL.op (ok_assign rfl (fun _ => rfl)) rfl rfl ?_
  refine TrL.fin ?_
  refine End.nxt ?_
  refine Tr.seq ?_
  refine Tr.seq ?_
  refine Tr.rg ?_
  refine TrL.op (ok_call (fun hp => ct_awake) (.nil)) rfl rfl ?_
  refine TrL.op (ok_not rfl (fun _ => rfl)) rfl rfl ?_
  refine TrL.fin ?_
  refine End.nxt ?_
  refine Tr.cnd rfl ?_ ?_
  · intro h1
    simp at h1
  · intro h1
    refine Tr.skip ?_
    refine End.nxt ?_
    refine Tr.seq ?_
    refine Tr.seq ?_
    refine Tr.rg ?_
    refine TrL.op (ok_ldBS rfl (fun _ => rfl)) rfl rfl ?_
    refine TrL.op (ok_call (fun hp => ct_Few _) (.s rfl (fun _ => rfl) rfl <| .nil)) rfl rfl ?_
    refine TrL.op (ok_not rfl (fun _ => rfl)) rfl rfl ?_
    refine TrL.op (ok_move rfl (fun _ => rfl)) rfl rfl ?_
    refine TrL.gd rfl rfl rfl (ok_move rfl (fun _ => rfl)) rfl rfl ?_
    refine TrL.gd rfl rfl rfl (ok_lenS rfl id) rfl rfl ?_
    refine TrL.gd rfl rfl rfl (ok_gtr rfl id rfl (fun _ => rfl)) rfl rfl ?_
    refine TrL.op (ok_or rfl (fun _ => rfl) rfl (fun hp h => gdF2 ((fun _ => rfl) hp) h)) rfl rfl ?_
    refine TrL.fin ?_
    refine End.nxt ?_
    refine Tr.cnd rfl ?_ ?_
    · intro h3
      refine Tr.seq ?_
      refine Tr.rg ?_
      refine TrL.op (ok_assign rfl (fun _ => rfl)) rfl rfl ?_
      refine TrL.fin ?_
      refine End.nxt ?_
      refine Tr.ret ?_
      refine Rts.thn ?_
      exact Rts.res1 (fn := Tryz.f3) rfl (.b rfl (by rfl) <| .nil)
    · intro h3
      simp at h3
      refine Tr.skip ?_
      refine End.nxt ?_
      refine Tr.seq ?_
      refine Tr.rg ?_
      refine TrL.op (ok_ldBS rfl (fun _ => rfl)) rfl rfl ?_
      refine TrL.op (ok_call (fun hp => ct_oPrint _) (.s rfl (fun _ => rfl) rfl <| .nil)) rfl rfl ?_
      refine TrL.op (ok_move rfl (fun _ => rfl)) rfl rfl ?_
      refine TrL.op (ok_ext rfl (fun _ => rfl) rfl) rfl rfl ?_
      refine TrL.op (ok_ext rfl (fun _ => rfl) rfl) rfl rfl ?_
      refine TrL.op (ok_assign rfl (fun _ => rfl)) rfl rfl ?_
      refine TrL.op (ok_assign rfl (fun _ => rfl)) rfl rfl ?_
      refine TrL.fin ?_
      refine End.nxt ?_
      refine Tr.seq ?_
      refine Tr.seq ?_
      refine Tr.rg ?_
      refine TrL.op (ok_ldBS rfl (fun _ => rfl)) rfl rfl ?_
      refine TrL.op (ok_call (fun hp => ct_rCheck _) (.s rfl (fun _ => rfl) rfl <| .nil)) rfl rfl ?_
      refine TrL.op (ok_assign rfl (fun _ => rfl)) rfl rfl ?_
      refine TrL.fin ?_
      refine End.nxt ?_
      refine Tr.seq ?_
      refine Tr.rg ?_
      refine TrL.op (ok_move rfl (fun _ => rfl)) rfl rfl ?_
      refine TrL.op (ok_neq rfl (fun _ => rfl) rfl (fun _ => rfl)) rfl rfl ?_
      refine TrL.fin ?_
      refine End.nxt ?_
      refine Tr.cnd rfl ?_ ?_
      · intro h7
        replace h7 := of_decide_eq_true h7
        refine Tr.seq ?_
        refine Tr.rg ?_
        refine TrL.op (ok_move rfl (fun _ => rfl)) rfl rfl ?_
        refine TrL.op (ok_move rfl (fun _ => rfl)) rfl rfl ?_
        refine TrL.op (ok_neq rfl (fun _ => rfl) rfl (fun _ => rfl)) rfl rfl ?_
        refine TrL.op (ok_move rfl (fun _ => rfl)) rfl rfl ?_
        refine TrL.gd rfl rfl rfl (ok_move rfl (fun _ => rfl)) rfl rfl ?_
        refine TrL.gd rfl rfl rfl (ok_neqS rfl id rfl (fun _ => rfl)) rfl rfl ?_
        refine TrL.op (ok_or rfl (fun _ => rfl) rfl (fun hp h => gdF2 ((fun _ => rfl) hp) h)) rfl rfl ?_
        refine TrL.fin ?_
        refine End.nxt ?_
        refine Tr.cnd rfl ?_ ?_
        · intro h8
          rw [if_neg h7] at h8
          simp [mkS] at h8
        · intro h8
          refine Tr.skip ?_
          refine End.nxt ?_
          refine Tr.seq ?_
          refine Tr.rg ?_
          refine TrL.op (ok_move rfl (fun _ => rfl)) rfl rfl ?_
          refine TrL.op (ok_callG hG (fun hp => ct_oParse _) (.a rfl (fun _ => rfl) <| .nil)) rfl rfl ?_
          refine TrL.op (ok_move rfl (fun _ => rfl)) rfl rfl ?_
          refine TrL.op (ok_ext rfl (fun _ => rfl) rfl) rfl rfl ?_
          refine TrL.op (ok_ext rfl (fun _ => rfl) rfl) rfl rfl ?_
          refine TrL.new (ok_alloc 10) rfl rfl rfl rfl ?_
          refine TrL.stB rfl rfl rfl rfl ?_
          refine TrL.op (ok_assign rfl (fun _ => rfl)) rfl rfl ?_
          refine TrL.fin ?_
          refine End.nxt ?_
          refine Tr.seq ?_
          refine Tr.seq ?_
          refine Tr.rg ?_
          refine TrL.op (ok_move rfl (fun _ => rfl)) rfl rfl ?_
          refine TrL.op (ok_lenS rfl (fun _ => rfl)) rfl rfl ?_
          refine TrL.op (ok_gtr rfl (fun _ => rfl) rfl (fun _ => rfl)) rfl rfl ?_
          refine TrL.fin ?_
          refine End.nxt ?_
          refine Tr.cnd rfl ?_ ?_
          · intro h14
            replace h14 := of_decide_eq_true h14
            refine Tr.seq ?_
            refine Tr.rg ?_
            refine TrL.op (ok_move rfl (fun _ => rfl)) rfl rfl ?_
            refine TrL.op (ok_eql rfl (fun _ => rfl) rfl (fun _ => rfl)) rfl rfl ?_
            refine TrL.op (ok_move rfl (fun _ => rfl)) rfl rfl ?_
            refine TrL.gd rfl rfl rfl (ok_ldBS rfl (fun _ => rfl)) rfl rfl ?_
            refine TrL.gd rfl rfl rfl (ok_call (fun hp => ct_nothing _) (.s rfl id rfl <| .nil)) rfl rfl ?_
            refine TrL.op (ok_and rfl (fun _ => rfl) rfl (fun hp h => gdT2 ((fun _ => rfl) hp) h)) rfl rfl ?_
            refine TrL.op (ok_assign rfl (fun _ => rfl)) rfl rfl ?_
            refine TrL.fin ?_
            refine End.nxt ?_
            refine Tr.ret ?_
            refine Rts.thn ?_
            exact Rts.res1 (fn := Tryz.f3) rfl (.b rfl (by rw [parR_large (by omega)]; rfl) <| .nil)
          · intro h14
            replace h14 := Int.not_lt.1 (of_decide_eq_false h14)
            refine Tr.skip ?_
            refine End.nxt ?_
            refine Tr.seq ?_
            refine Tr.seq ?_
            refine Tr.rg ?_
            refine TrL.op (ok_move rfl (fun _ => rfl)) rfl rfl ?_
            refine TrL.op (ok_neq rfl (fun _ => rfl) rfl (fun _ => rfl)) rfl rfl ?_
            refine TrL.fin ?_
            refine End.nxt ?_
            refine Tr.cnd rfl ?_ ?_
            · intro h16
              replace h16 := of_decide_eq_true h16
              refine Tr.seq ?_
              refine Tr.rg ?_
              refine TrL.op (ok_move rfl (fun _ => rfl)) rfl rfl ?_
              refine TrL.op (ok_eql rfl (fun _ => rfl) rfl (fun _ => rfl)) rfl rfl ?_
              refine TrL.op (ok_move rfl (fun _ => rfl)) rfl rfl ?_
              refine TrL.gd rfl rfl rfl (ok_ldBS rfl (fun _ => rfl)) rfl rfl ?_
              refine TrL.gd rfl rfl rfl (ok_call (fun hp => ct_nothing _) (.s rfl id rfl <| .nil)) rfl rfl ?_
              refine TrL.op (ok_and rfl (fun _ => rfl) rfl (fun hp h => gdT2 ((fun _ => rfl) hp) h)) rfl rfl ?_
              refine TrL.op (ok_move rfl (fun _ => rfl)) rfl rfl ?_
              refine TrL.gd rfl rfl rfl (ok_move rfl (fun _ => rfl)) rfl rfl ?_
              refine TrL.gd rfl rfl rfl (ok_call (fun hp => ct_rIsText _ (by omega)) (.a rfl id <| .nil)) rfl rfl ?_
              refine TrL.gd rfl rfl rfl (ok_not rfl id) rfl rfl ?_
              refine TrL.op (ok_and rfl (fun _ => rfl) rfl (fun hp h => gdT2 ((fun _ => rfl) hp) h)) rfl rfl ?_
              refine TrL.op (ok_assign rfl (fun _ => rfl)) rfl rfl ?_
              refine TrL.fin ?_
              refine End.nxt ?_
              refine Tr.ret ?_
              refine Rts.thn ?_
              exact Rts.res1 (fn := Tryz.f3) rfl (.b rfl (by rw [parR_bad h16, if_neg (by rw [dS_len]; omega), isTx_bad h16]; rfl) <| .nil)
            · intro h16
              replace h16 := Classical.not_not.1 (of_decide_eq_false h16)
              have hpo := parR_ok h16
              have hpo2 : mkS (prt (parR (dS s)).1) = s := by rw [hpo.2.1]; rfl
              have vx : Valid (parR (dS s)).1 := valid_of hpo.1
              refine Tr.skip ?_
              refine End.nxt ?_
              refine Tr.seq ?_
              refine Tr.rg ?_
              refine TrL.op (ok_ldBS rfl (fun _ => rfl)) rfl rfl ?_
              refine TrL.op (ok_call (fun hp => ct_rCheck _) (.s rfl (fun _ => rfl) rfl <| .nil)) rfl rfl ?_
              refine TrL.op (ok_eql rfl (fun _ => rfl) rfl (fun _ => rfl)) rfl rfl ?_
              refine TrL.op (ok_move rfl (fun _ => rfl)) rfl rfl ?_
              refine TrL.gd rfl rfl rfl (ok_ldBS rfl (fun _ => rfl)) rfl rfl ?_
              refine TrL.gd rfl rfl rfl (ok_call (fun hp => ct_rPrint _ vx) (.s rfl id rfl <| .nil)) rfl rfl ?_
              refine TrL.gd rfl rfl rfl (ok_move rfl (fun _ => rfl)) rfl rfl ?_
              refine TrL.gd rfl rfl rfl (ok_eqlS rfl id rfl id) rfl rfl ?_
              refine TrL.op (ok_and rfl (fun _ => rfl) rfl (fun hp h => gdT2 ((fun _ => rfl) hp) h)) rfl rfl ?_
              refine TrL.op (ok_assign rfl (fun _ => rfl)) rfl rfl ?_
              refine TrL.fin ?_
              refine End.nxt ?_
              refine Tr.ret ?_
              exact Rts.res1 (fn := Tryz.f3) rfl (.b rfl (by rw [decide_eq_true hpo.1, decide_eq_true hpo2]; rfl) <| .nil)
      · intro h7
        replace h7 := Classical.not_not.1 (of_decide_eq_false h7)
        have v : Valid o := valid_of h7
        have hpp : parR (dS (mkS (if chkO o = 0 then prt o else []))) = (o, 0) := by rw [if_pos h7]; exact parR_prt v
        refine Tr.seq ?_
        refine Tr.rg ?_
        refine TrL.op (ok_move rfl (fun _ => rfl)) rfl rfl ?_
        refine TrL.op (ok_callG hG (fun hp => ct_oParse _) (.a rfl (fun _ => rfl) <| .nil)) rfl rfl ?_
        refine TrL.op (ok_move rfl (fun _ => rfl)) rfl rfl ?_
        refine TrL.op (ok_ext rfl (fun _ => rfl) rfl) rfl rfl ?_
        refine TrL.op (ok_ext rfl (fun _ => rfl) rfl) rfl rfl ?_
        refine TrL.new (ok_alloc 8) rfl rfl rfl rfl ?_
        refine TrL.stB rfl rfl rfl rfl ?_
        refine TrL.op (ok_assign rfl (fun _ => rfl)) rfl rfl ?_
        refine TrL.fin ?_
        refine End.nxt ?_
        refine Tr.seq ?_
        refine Tr.rg ?_
        refine TrL.op (ok_move rfl (fun _ => rfl)) rfl rfl ?_
        refine TrL.op (ok_neq rfl (fun _ => rfl) rfl (fun _ => rfl)) rfl rfl ?_
        refine TrL.op (ok_move rfl (fun _ => rfl)) rfl rfl ?_
        refine TrL.gd rfl rfl rfl (ok_move rfl (fun _ => rfl)) rfl rfl ?_
        refine TrL.gd rfl rfl rfl (ok_ldBS rfl (fun _ => rfl)) rfl rfl ?_
        refine TrL.gd rfl rfl rfl (ok_call (fun hp => ct_rPrint _ v) (.s rfl id rfl <| .nil)) rfl rfl ?_
        refine TrL.gd rfl rfl rfl (ok_neqS rfl id rfl id) rfl rfl ?_
        refine TrL.op (ok_or rfl (fun _ => rfl) rfl (fun hp h => gdF2 ((fun _ => rfl) hp) h)) rfl rfl ?_
        refine TrL.op (ok_move rfl (fun _ => rfl)) rfl rfl ?_
        refine TrL.gd rfl rfl rfl (ok_move rfl (fun _ => rfl)) rfl rfl ?_
        refine TrL.gd rfl rfl rfl (ok_neq rfl id rfl (fun _ => rfl)) rfl rfl ?_
        refine TrL.op (ok_or rfl (fun _ => rfl) rfl (fun hp h => gdF2 ((fun _ => rfl) hp) h)) rfl rfl ?_
        refine TrL.op (ok_move rfl (fun _ => rfl)) rfl rfl ?_
        refine TrL.gd rfl rfl rfl (ok_ldBS rfl (fun _ => rfl)) rfl rfl ?_
        refine TrL.gd rfl rfl rfl (ok_ldBS rfl (fun _ => rfl)) rfl rfl ?_
        refine TrL.gd rfl rfl rfl (ok_call (fun hp => ct_rSame _ _) (.s rfl id rfl <| .s rfl id rfl <| .nil)) rfl rfl ?_
        refine TrL.gd rfl rfl rfl (ok_not rfl id) rfl rfl ?_
        refine TrL.op (ok_or rfl (fun _ => rfl) rfl (fun hp h => gdF2 ((fun _ => rfl) hp) h)) rfl rfl ?_
        refine TrL.fin ?_
        refine End.nxt ?_
        refine Tr.cnd rfl ?_ ?_
        · intro h11
          rw [hpp] at h11
          simp [h7] at h11
        · intro h11
          refine Tr.skip ?_
          refine End.nxt ?_
          refine Tr.seq ?_
          refine Tr.rg ?_
          refine TrL.op (ok_move rfl (fun _ => rfl)) rfl rfl ?_
          refine TrL.op (ok_callG hG (fun hp => ct_oParse _) (.a rfl (fun _ => rfl) <| .nil)) rfl rfl ?_
          refine TrL.op (ok_move rfl (fun _ => rfl)) rfl rfl ?_
          refine TrL.op (ok_ext rfl (fun _ => rfl) rfl) rfl rfl ?_
          refine TrL.op (ok_ext rfl (fun _ => rfl) rfl) rfl rfl ?_
          refine TrL.new (ok_alloc 10) rfl rfl rfl rfl ?_
          refine TrL.stB rfl rfl rfl rfl ?_
          refine TrL.op (ok_assign rfl (fun _ => rfl)) rfl rfl ?_
          refine TrL.fin ?_
          refine End.nxt ?_
          refine Tr.seq ?_
          refine Tr.seq ?_
          refine Tr.rg ?_
          refine TrL.op (ok_move rfl (fun _ => rfl)) rfl rfl ?_
          refine TrL.op (ok_lenS rfl (fun _ => rfl)) rfl rfl ?_
          refine TrL.op (ok_gtr rfl (fun _ => rfl) rfl (fun _ => rfl)) rfl rfl ?_
          refine TrL.fin ?_
          refine End.nxt ?_
          refine Tr.cnd rfl ?_ ?_
          · intro h14
            replace h14 := of_decide_eq_true h14
            refine Tr.seq ?_
            refine Tr.rg ?_
            refine TrL.op (ok_move rfl (fun _ => rfl)) rfl rfl ?_
            refine TrL.op (ok_eql rfl (fun _ => rfl) rfl (fun _ => rfl)) rfl rfl ?_
            refine TrL.op (ok_move rfl (fun _ => rfl)) rfl rfl ?_
            refine TrL.gd rfl rfl rfl (ok_ldBS rfl (fun _ => rfl)) rfl rfl ?_
            refine TrL.gd rfl rfl rfl (ok_call (fun hp => ct_nothing _) (.s rfl id rfl <| .nil)) rfl rfl ?_
            refine TrL.op (ok_and rfl (fun _ => rfl) rfl (fun hp h => gdT2 ((fun _ => rfl) hp) h)) rfl rfl ?_
            refine TrL.op (ok_assign rfl (fun _ => rfl)) rfl rfl ?_
            refine TrL.fin ?_
            refine End.nxt ?_
            refine Tr.ret ?_
            refine Rts.thn ?_
            exact Rts.res1 (fn := Tryz.f3) rfl (.b rfl (by rw [parR_large (by omega)]; rfl) <| .nil)
          · intro h14
            replace h14 := Int.not_lt.1 (of_decide_eq_false h14)
            refine Tr.skip ?_
            refine End.nxt ?_
            refine Tr.seq ?_
            refine Tr.seq ?_
            refine Tr.rg ?_
            refine TrL.op (ok_move rfl (fun _ => rfl)) rfl rfl ?_
            refine TrL.op (ok_neq rfl (fun _ => rfl) rfl (fun _ => rfl)) rfl rfl ?_
            refine TrL.fin ?_
            refine End.nxt ?_
            refine Tr.cnd rfl ?_ ?_
            · intro h16
              replace h16 := of_decide_eq_true h16
              refine Tr.seq ?_
              refine Tr.rg ?_
              refine TrL.op (ok_move rfl (fun _ => rfl)) rfl rfl ?_
              refine TrL.op (ok_eql rfl (fun _ => rfl) rfl (fun _ => rfl)) rfl rfl ?_
              refine TrL.op (ok_move rfl (fun _ => rfl)) rfl rfl ?_
              refine TrL.gd rfl rfl rfl (ok_ldBS rfl (fun _ => rfl)) rfl rfl ?_
              refine TrL.gd rfl rfl rfl (ok_call (fun hp => ct_nothing _) (.s rfl id rfl <| .nil)) rfl rfl ?_
              refine TrL.op (ok_and rfl (fun _ => rfl) rfl (fun hp h => gdT2 ((fun _ => rfl) hp) h)) rfl rfl ?_
              refine TrL.op (ok_move rfl (fun _ => rfl)) rfl rfl ?_
              refine TrL.gd rfl rfl rfl (ok_move rfl (fun _ => rfl)) rfl rfl ?_
              refine TrL.gd rfl rfl rfl (ok_call (fun hp => ct_rIsText _ (by omega)) (.a rfl id <| .nil)) rfl rfl ?_
              refine TrL.gd rfl rfl rfl (ok_not rfl id) rfl rfl ?_
              refine TrL.op (ok_and rfl (fun _ => rfl) rfl (fun hp h => gdT2 ((fun _ => rfl) hp) h)) rfl rfl ?_
              refine TrL.op (ok_assign rfl (fun _ => rfl)) rfl rfl ?_
              refine TrL.fin ?_
              refine End.nxt ?_
              refine Tr.ret ?_
              refine Rts.thn ?_
              exact Rts.res1 (fn := Tryz.f3) rfl (.b rfl (by rw [parR_bad h16, if_neg (by rw [dS_len]; omega), isTx_bad h16]; rfl) <| .nil)
            · intro h16
              replace h16 := Classical.not_not.1 (of_decide_eq_false h16)
              have hpo := parR_ok h16
              have hpo2 : mkS (prt (parR (dS s)).1) = s := by rw [hpo.2.1]; rfl
              have vx : Valid (parR (dS s)).1 := valid_of hpo.1
              refine Tr.skip ?_
              refine End.nxt ?_
              refine Tr.seq ?_
              refine Tr.rg ?_
              refine TrL.op (ok_ldBS rfl (fun _ => rfl)) rfl rfl ?_
              refine TrL.op (ok_call (fun hp => ct_rCheck _) (.s rfl (fun _ => rfl) rfl <| .nil)) rfl rfl ?_
              refine TrL.op (ok_eql rfl (fun _ => rfl) rfl (fun _ => rfl)) rfl rfl ?_
              refine TrL.op (ok_move rfl (fun _ => rfl)) rfl rfl ?_
              refine TrL.gd rfl rfl rfl (ok_ldBS rfl (fun _ => rfl)) rfl rfl ?_
              refine TrL.gd rfl rfl rfl (ok_call (fun hp => ct_rPrint _ vx) (.s rfl id rfl <| .nil)) rfl rfl ?_
              refine TrL.gd rfl rfl rfl (ok_move rfl (fun _ => rfl)) rfl rfl ?_
              refine TrL.gd rfl rfl rfl (ok_eqlS rfl id rfl id) rfl rfl ?_
              refine TrL.op (ok_and rfl (fun _ => rfl) rfl (fun hp h => gdT2 ((fun _ => rfl) hp) h)) rfl rfl ?_
              refine TrL.op (ok_assign rfl (fun _ => rfl)) rfl rfl ?_
              refine TrL.fin ?_
              refine End.nxt ?_
              refine Tr.ret ?_
              exact Rts.res1 (fn := Tryz.f3) rfl (.b rfl (by rw [decide_eq_true hpo.1, decide_eq_true hpo2]; rfl) <| .nil)

end Go.Fl

/- The wrap of a law whose code reads package variables: the world's shape and the listed data are both at hand. -/
namespace Go.Fl
open Go Go.RowKit
theorem CtG.law {G : JV → Prop} {P : Program} {f : FuncId} {args : List Know} (h : CtG G P f args (kB true)) {W : World} (hG : G (memJ W)) {vs : Array Value} (hv : allK ⟨memJ W, noM⟩ args vs.toList) {Q : Ending → World → Prop} (hq : ∀ W', Below W.heap.size W W' → Q (.returned (.bool true)) W') : Calls P f vs W Q := by
  have := h W (memJ W) hG (memJ_im W) vs.toList hv
  refine this.mono fun e W' ⟨r, J', he, hb, _, _, _, hr⟩ => ?_
  subst he
  rw [show r = .bool true from hr]
  exact hq W' hb
theorem handed_shaped {H : Type} {enc : TypeId × Value → H} {a : Assume} {C : Checked} {os : Os} {f : FuncId} {fn : Func} {s : ChangeSpec} {conds : List PathCond} {apart fresh handsOn again : Bool} {X : World → Array Value → Prop}
    (hX : ∀ (w w' : World) (args : Array Value), w.heap = w'.heap → X w args → X w' args)
    (own : ownKnob C.prog.godebug = none) (started : os.Started) (noInit : C.prog.inits.idxOf? f = none) (hfn : C.prog.funcs[f]? = some fn)
    (witness : ∃ (w : World) (tape : Tape) (i : Input), w.os = os ∧ (w.forCall tape i).Shaped C.prog ∧ i.vars = [] ∧ Input.okWide C.prog (w.forCall tape i) .any w.heap.size f i ∧
      ((s.pre enc C.prog fn conds apart (w.forCall tape i).memory i.args ∧ X (w.forCall tape i).memory i.args) ∧ sizedMet enc C.prog fn (OpenSpec.ofChange s) apart (w.forCall tape i).memory i.args) ∧ a.holds C.prog (lone (Frame.enter C.prog f i.args .normal) [] (w.forCall tape i)))
    (contract : ∀ (W : World) (base : Nat) (args : Array Value) (ds gs : List (DataW H)) (before : List MemPlace),
      (∀ (j : Nat) t v, fn.params[j]? = some t → args[j]? = some v → Value.okWide C.prog W .any base t v) →
      DataW.Whole enc C.prog fn.params.toList s.vars apart W args.toList ds gs before →
      conds.all (PathCond.test C.prog ⟨fn.params.toList, ds, s.plain.varTypes C.prog, gs⟩) = true →
      (DataW.weightsEach C.prog (fn.params.toList ++ s.plain.varTypes C.prog) (ds ++ gs)).all (· ≤ reachBytes) = true → X W args → W.ShapedOpen C.prog →
      Calls C.prog f args W fun e W' => ∃ v, e = .returned v ∧ s.post enc C.prog fn apart fresh handsOn again W args v W') :
    ReturnsInHanded a C os f .any (fun w args => (s.pre enc C.prog fn conds apart w args ∧ X w args) ∧ sizedMet enc C.prog fn (OpenSpec.ofChange s) apart w args) (s.post enc C.prog fn apart fresh handsOn again) := by
  refine returnsInHanded_of_calls own started noInit witness ?_
  intro w tape i _ hsh _ hok hpre _
  obtain ⟨_, _, _, fn', hfn', _, _, _, _, hval⟩ := hok
  have e : fn' = fn := Option.some.inj (hfn'.symm.trans hfn)
  subst e
  obtain ⟨⟨⟨ds, gs, before, hw, hc⟩, hx⟩, hz⟩ := hpre
  have hw' := DataW.Whole.of_heap (w' := w.forCall tape i) (by rfl) hw
  refine (contract (w.forCall tape i) w.heap.size i.args ds gs before hval hw' hc (hz.weights hw) (hX _ _ _ (by rfl) hx) hsh).mono fun e W' ⟨v, he, hp⟩ => ?_
  subst he
  exact ChangeSpec.post_blind hp
end Go.Fl

/- THE LAW OrigamiTexts HOLDS FOR EVERY INPUT: whatever the arguments, the call returns true, and each argument reads behind it as before. Conditions: those of the given row (its listed variables as the program lays them). -/
namespace Go.Proofs.YtlkipjphohdilaaGreatDoor
open Go Go.Fl Go.RowKit Go.ChangeShapes Go.WideShapes Go.ChangeAt

theorem rdt22 : RdT Tryz.prog 22 (eL eI) (ListP (okI .i64)) := RdT.slice RdT.int rfl rfl rfl
theorem rdt24t : RdT Tryz.prog 24 (eP (eL eI) (eP (eL eI) eU)) (AndP (ListP (okI .i64)) (AndP (ListP (okI .i64)) UnitP)) := by
  refine RdT.struct (l := [_, _]) Tryz.underlying24 rfl (by kernel_rfl) ?_
  refine FldT.cons rdt22 (by rfl) (by rfl) (by rfl) ?_
  refine FldT.cons rdt22 (by rfl) (by rfl) (by rfl) ?_
  exact FldT.nil
theorem rdt24 : RdT Tryz.prog 24 eO (fun o : Ori => ListP (okI .i64) o.1 ∧ ListP (okI .i64) o.2) := RdT.conv rdt24t (fun x => ((x.1, x.2.1) : Ori)) (fun _ _ _ h => h) (fun _ h => ⟨h.1, h.2.1⟩)
theorem rowErr (u : TypeId) (h : Tryz.prog.typeName? 3 u = some "*errors.errorString") : u = 151 :=
  typeName_ptr_named (nm := "errors.errorString") (by rw [show "*" ++ "errors.errorString" = "*errors.errorString" by decide]; kernel_rfl) (by kernel_rfl) (by decide) u (by rw [show "*" ++ "errors.errorString" = "*errors.errorString" by decide]; exact h)
theorem gv_of {W : World} (hsh : W.ShapedOpen Tryz.prog) (hL : laidMetH Tryz.prog Rows.origamiTextsRow.laid W) : GV (memJ W) := by
  rw [MakeChecks.laidMetH_plain _ _ _ (by kernel_rfl)] at hL
  have hL4 := hL.tail.tail.tail.tail
  obtain ⟨aR, _, hR, _, _, _⟩ := laid_sentinel (g := Tryz.laysAt_ren.g 16) (ti := 54) (tp := 151) (te := 153) (ts := 9) hL4 (by kernel_rfl) (by kernel_rfl) Tryz.underlying54 rowErr Tryz.underlying151 Tryz.underlying153 rfl rfl (by kernel_rfl) (by kernel_rfl) (by kernel_rfl)
  obtain ⟨aS, _, hS, _, _, _⟩ := laid_sentinel (g := Tryz.laysAt_ren.g 15) (ti := 54) (tp := 151) (te := 153) (ts := 9) hL4.tail (by kernel_rfl) (by kernel_rfl) Tryz.underlying54 rowErr Tryz.underlying151 Tryz.underlying153 rfl rfl (by kernel_rfl) (by kernel_rfl) (by kernel_rfl)
  exact ⟨Tryz.laysS.s1_3 W hsh, ⟨151, .pointer (some aS), (World.var?_cell Tryz.laysAt.m15 hS 0).trans rfl⟩, ⟨151, .pointer (some aR), (World.var?_cell Tryz.laysAt.m16 hR 0).trans rfl⟩⟩
theorem own : ownKnob Tryz.prog.godebug = none := by kernel_rfl
set_option maxRecDepth 100000 in
theorem lifted (os : Os) (started : os.Started) (H : Type) (enc : TypeId × Value → H) :
    ReturnsInHanded {} Tryz.checked os 3 .any (fun w args => (Rows.origamiTextsSpec.pre enc Tryz.prog Tryz.f3 [] false w args ∧ laidMetH Tryz.prog Rows.origamiTextsRow.laid w) ∧ sizedMet enc Tryz.prog Tryz.f3 (OpenSpec.ofChange Rows.origamiTextsSpec) false w args)
      (Rows.origamiTextsSpec.post enc Tryz.prog Tryz.f3 false true false false) := by
  refine handed_shaped (C := Tryz.checked) (X := fun w _ => laidMetH Tryz.prog Rows.origamiTextsRow.laid w) (fun _ _ _ hh h => h.of_heap hh) own started (by kernel_rfl) Tryz.func3
    (ChangeSpec.witness_shaped (enc := enc) (C := Tryz.checked) (os := os) (X := fun w _ => laidMetH Tryz.prog Rows.origamiTextsRow.laid w) false (World.laidAll Tryz.prog os Rows.origamiTextsRow.laid) #[.agg #[.slice none 0 0, .slice none 0 0], .string ⟨#[]⟩] 8 (World.laidAll_os _ _ _)
      (World.shaped_of_ZipB (by kernel_rfl) (by kernel_rfl)) (by kernel_rfl) (by kernel_rfl) (by kernel_rfl)
      (by rw [MakeChecks.laidMetH_plain _ _ _ (by kernel_rfl)]; exact laidMet_laidAll _ (by kernel_rfl) (by kernel_rfl))) ?_
  intro W base args ds gs before hval0 hW _ hwt hL hsh
  have hval : ∀ (j : Nat) t v, Tryz.f3.params[j]? = some t → args[j]? = some v → Value.okWide Tryz.prog W .any base t v := hval0
  have hpost : ∀ W', RowKit.Below W.heap.size W W' → Rows.origamiTextsSpec.post enc Tryz.prog Tryz.f3 false true false false W args (.bool true) W' := fun W' hb => law_post (by kernel_rfl) (by kernel_rfl) (by kernel_rfl) hW (by kernel_rfl) rfl (fun hg => by
    subst hg
    obtain ⟨p, q, hA0, _⟩ := hW
    have hA : DataW.TrodAll enc Tryz.prog W 0 (fun _ => true) true Tryz.f3.params.toList args.toList ds p := hA0
    rw [Tryz.params3] at hA
    obtain ⟨v0, v1, d0, d1, _, _, rfl, rfl, _, _, _⟩ := trodAll_two hA
    rfl) rfl Tryz.underlying4 hb
  have hW0 := hW
  obtain ⟨p, q, hA0, hV, rfl, _, _⟩ := hW0
  have hA : DataW.TrodAll enc Tryz.prog W 0 (fun _ => true) true Tryz.f3.params.toList args.toList ds p := hA0
  rw [Tryz.params3] at hA hval hwt
  obtain ⟨rfl, rfl⟩ := trodVars_none hV
  obtain ⟨v0, v1, d0, d1, _, _, rfl, rfl, _, h0, h1⟩ := trodAll_two hA
  have hwt' : (DataW.weightsEach Tryz.prog [24, 9] [d0, d1]).all (· ≤ reachBytes) = true := hwt
  have w0 := weights_cons hwt'
  have w1 := weights_cons w0.2
  obtain ⟨x0, k0, r0⟩ := RdT.val (by exact rdt24 : RdT Tryz.prog 24 eO (fun o : Ori => ListP (okI .i64) o.1 ∧ ListP (okI .i64) o.2)) rfl (hval 0 24 v0 rfl rfl) h0 w0.1
  obtain ⟨x1, k1, r1⟩ := RdT.val (by exact RdT.str : RdT Tryz.prog 9 eStr StrP) rfl (hval 1 9 v1 rfl rfl) h1 w1.1
  refine CtG.law (hG := gv_of hsh hL) (vs := #[v0, v1]) (ct_OrigamiTexts x0 x1) ?_ fun W' hb => ⟨_, rfl, hpost W' hb⟩
  exact ⟨k0, (kS_rd k1), trivial⟩
theorem holds : Rows.origamiTextsRow.holds Tryz.pinned (OpenSpec.ofChange Rows.origamiTextsSpec) :=
  OpenClaim.holds_of_wide 3 Tryz.f3 rfl rfl rfl rfl rfl rfl rfl ⟨rfl, rfl, rfl, rfl, rfl⟩ rfl rfl rfl rfl rfl (by kernel_rfl) Tryz.func3 (by kernel_rfl)
    (of_decide_eq_true (by kernel_rfl)) (by unfold Func.isWrapper; first | (rw [if_pos (by decide +kernel)]; kernel_rfl) | (rw [if_neg (by decide +kernel)]; exact ⟨rfl, rfl⟩))
    (fun os started H enc _ => lifted os started H enc)
theorem origamiTexts_holds : Rows.OrigamiTextsCardSaid :=
  Claim7.holds_tied_plain_at .later [] [.data, .data, .data, .data, .sentinel, .sentinel, .pinned] true (true, "7193078fd8a4b8ca5f6ae3cc708b4f6dbc732c005ff18acc7bbafc9b44fb632b") true holds (fun _ h => by cases h) (by kernel_rfl) (fun _ h => by cases h) origamiTexts_row_tie rfl ⟨rfl, rfl⟩ (by kernel_rfl) rfl
    (fun f fn hf hfn => by
      obtain rfl : f = 3 := Option.some.inj ((show Tryz.prog.funcNamed Rows.origamiTextsRow.func = some 3 by kernel_rfl).symm.trans hf) |>.symm
      obtain rfl : fn = Tryz.f3 := (Option.some.inj (Tryz.func3.symm.trans hfn)).symm
      exact ⟨by kernel_rfl, fun j t ht => by
        rw [Tryz.params3] at ht
        have hm : t ∈ [24, 9] := by simpa using Array.mem_of_getElem? ht
        have hall : ([24, 9].all fun u => !Tryz.prog.wantsStandIn u) = true := by kernel_rfl
        exact (show Tryz.prog.wantsStandIn t = false by simpa using List.all_eq_true.1 hall t hm)⟩)
    (by kernel_rfl)
end Go.Proofs.YtlkipjphohdilaaGreatDoor
