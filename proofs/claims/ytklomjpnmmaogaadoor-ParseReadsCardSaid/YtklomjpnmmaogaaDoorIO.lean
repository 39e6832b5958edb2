/- Instances that a call owns. -/
import Derived.Test.YtklomjpnmmaogaaDoorIOA
import Derived.Laws.OwnMore
namespace Go.Proofs.YtklomjpnmmaogaaDoor
open Go Go.RowKit
set_option linter.unusedVariables false
set_option linter.unusedSimpArgs false
set_option maxRecDepth 100000

/-- A slice of slices of numbers that the call owns; a slice of numbers with slices of numbers. -/
def OwnR (w : World) (base : Nat) (tr te : TypeId) (v : Value) (rows : List (List Int)) : Prop := ∃ us : List Value, us.length = rows.length ∧ w.ownsRow base tr 1 v rows.length us ∧ ∀ (i : Nat) (r : List Int) (u : Value), rows[i]? = some r → us[i]? = some u → w.ownsRow base te 1 u r.length (r.map (Value.int .i64))
def OwnS (w : World) (base : Nat) (ts te : TypeId) (v : Value) (l : List (Int × List Int)) : Prop := ∃ us : List (Value × Value), us.length = l.length ∧ w.ownsRow base ts 2 v l.length (flat2 us) ∧ ∀ (i : Nat) (p : Int × List Int) (u : Value × Value), l[i]? = some p → us[i]? = some u → u.1 = .int .i64 p.1 ∧ w.ownsRow base te 1 u.2 p.2.length (p.2.map (Value.int .i64))
def OwnP (w : World) (base : Nat) (ti : TypeId) (v : Value) (l : List (Int × Int)) : Prop := w.ownsRow base ti 2 v l.length (flat2 (l.map pairI))
section
variable {w w' : World} {base base' : Nat} {tr te ts ti : TypeId} {v : Value}
theorem OwnP.below {l : List (Int × Int)} (h : OwnP w base ti v l) (hb : Below w.heap.size w w') : OwnP w' base ti v l := own_below h hb
theorem OwnR.below {rows : List (List Int)} (h : OwnR w base tr te v rows) (hb : Below w.heap.size w w') : OwnR w' base tr te v rows := by
  obtain ⟨us, h1, h2, h3⟩ := h
  exact ⟨us, h1, own_below h2 hb, fun i r u hr hu => own_below (h3 i r u hr hu) hb⟩
theorem OwnS.below {l : List (Int × List Int)} (h : OwnS w base ts te v l) (hb : Below w.heap.size w w') : OwnS w' base ts te v l := by
  obtain ⟨us, h1, h2, h3⟩ := h
  exact ⟨us, h1, own_below h2 hb, fun i r u hr hu => ⟨(h3 i r u hr hu).1, own_below (h3 i r u hr hu).2 hb⟩⟩
theorem OwnR.more {rows : List (List Int)} (h : OwnR w base tr te v rows) (hb : base' ≤ base) : OwnR w base' tr te v rows := by
  obtain ⟨us, h1, h2, h3⟩ := h
  exact ⟨us, h1, own_more h2 hb, fun i r u hr hu => own_more (h3 i r u hr hu) hb⟩
theorem OwnS.more {l : List (Int × List Int)} (h : OwnS w base ts te v l) (hb : base' ≤ base) : OwnS w base' ts te v l := by
  obtain ⟨us, h1, h2, h3⟩ := h
  exact ⟨us, h1, own_more h2 hb, fun i r u hr hu => ⟨(h3 i r u hr hu).1, own_more (h3 i r u hr hu).2 hb⟩⟩
/-- A store below what is owned. -/
theorem OwnP.set {l : List (Int × Int)} (h : OwnP w base ti v l) {p : Addr} (hp : p.block < base) (u : Value) : OwnP (w.setCell p u) base ti v l :=
  own_far h (fun e => by have := own_base h _ e; omega) u
theorem OwnR.set {rows : List (List Int)} (h : OwnR w base tr te v rows) {p : Addr} (hp : p.block < base) (x : Value) : OwnR (w.setCell p x) base tr te v rows := by
  obtain ⟨us, h1, h2, h3⟩ := h
  exact ⟨us, h1, own_far h2 (fun e => by have := own_base h2 _ e; omega) x, fun i r u hr hu => own_far (h3 i r u hr hu) (fun e => by have := own_base (h3 i r u hr hu) _ e; omega) x⟩
theorem OwnS.set {l : List (Int × List Int)} (h : OwnS w base ts te v l) {p : Addr} (hp : p.block < base) (x : Value) : OwnS (w.setCell p x) base ts te v l := by
  obtain ⟨us, h1, h2, h3⟩ := h
  exact ⟨us, h1, own_far h2 (fun e => by have := own_base h2 _ e; omega) x, fun i r u hr hu => ⟨(h3 i r u hr hu).1, own_far (h3 i r u hr hu).2 (fun e => by have := own_base (h3 i r u hr hu).2 _ e; omega) x⟩⟩
theorem OwnR.rd {A : Option Addr} {c : Nat} {rows : List (List Int)} (h : OwnR w base tr te (.slice A rows.length c) rows) : RdR w w.heap.size A rows := by
  obtain ⟨us, h1, h2, h3⟩ := h
  exact ⟨us, h1, Reads.of_own h2, fun i r u hr hu => own_hd (h3 i r u hr hu) rfl rfl⟩
theorem OwnS.rd {A : Option Addr} {c : Nat} {l : List (Int × List Int)} (h : OwnS w base ts te (.slice A l.length c) l) : RdS w w.heap.size A l := by
  obtain ⟨us, h1, h2, h3⟩ := h
  exact ⟨us, h1, Reads.of_own h2, fun i r u hr hu => ⟨(h3 i r u hr hu).1, own_hd (h3 i r u hr hu).2 rfl rfl⟩⟩
end
/-- An instance that the call owns. -/
structure OwnI (w : World) (base : Nat) (ti ts : TypeId) (I : IData) (A1 : Option Addr) (c1 : Nat) (A2 : Option Addr) (c2 : Nat) (A3 : Option Addr) (c3 : Nat) : Prop where
  items : OwnP w base ti (.slice A1 I.items.length c1) I.items
  cost : OwnR w base 88 2 (.slice A2 I.cost.length c2) I.cost
  sets : OwnS w base ts 3 (.slice A3 I.sets.length c3) I.sets
  in_ : IIn I
theorem OwnI.below {w w' : World} {base : Nat} {ti ts : TypeId} {I : IData} {A1 A2 A3 : Option Addr} {c1 c2 c3 : Nat} (h : OwnI w base ti ts I A1 c1 A2 c2 A3 c3) (hb : Below w.heap.size w w') : OwnI w' base ti ts I A1 c1 A2 c2 A3 c3 :=
  ⟨h.items.below hb, h.cost.below hb, h.sets.below hb, h.in_⟩
theorem OwnI.more {w : World} {base base' : Nat} {ti ts : TypeId} {I : IData} {A1 A2 A3 : Option Addr} {c1 c2 c3 : Nat} (h : OwnI w base ti ts I A1 c1 A2 c2 A3 c3) (hb : base' ≤ base) : OwnI w base' ti ts I A1 c1 A2 c2 A3 c3 :=
  ⟨own_more h.items hb, h.cost.more hb, h.sets.more hb, h.in_⟩
theorem cap_of {w : World} {base : Nat} {e : TypeId} {size n c : Nat} {A : Option Addr} {xs : List Value} (h : w.ownsRow base e size (.slice A n c) n xs) : n ≤ c ∧ c ≤ 9223372036854775807 := by
  obtain ⟨A', c', e, h1, h2⟩ := own_slice h
  injection e with _ _ e3
  subst e3
  exact ⟨h1, h2⟩
theorem OwnI.inst {w : World} {base : Nat} {ti ts : TypeId} {I : IData} {A1 A2 A3 : Option Addr} {c1 c2 c3 : Nat} (h : OwnI w base ti ts I A1 c1 A2 c2 A3 c3) : InstAt w w.heap.size I A1 c1 A2 c2 A3 c3 := by
  refine ⟨Reads.of_own h.items, h.cost.rd, h.sets.rd, cap_of h.items, ?_, ?_, h.in_, Nat.le_refl _⟩
  · obtain ⟨us, _, h2, _⟩ := h.cost
    exact cap_of h2
  · obtain ⟨us, _, h2, _⟩ := h.sets
    exact cap_of h2
theorem one_map (r : List Int) : ∀ u ∈ r.map (Value.int .i64), u.oneCell' = true := by
  intro u hu
  obtain ⟨x, _, rfl⟩ := List.mem_map.1 hu
  rfl
theorem one_flat : ∀ (l : List (Value × Value)), (∀ p ∈ l, p.1.oneCell' = true ∧ p.2.oneCell' = true) → ∀ u ∈ flat2 l, u.oneCell' = true
  | [], _, u, hu => by simp [flat2] at hu
  | p :: r, h, u, hu => by
    simp only [flat2, List.mem_cons] at hu
    rcases hu with rfl | rfl | hu
    · exact (h p (by simp)).1
    · exact (h p (by simp)).2
    · exact one_flat r (fun q hq => h q (by simp [hq])) u hu
end Go.Proofs.YtklomjpnmmaogaaDoor
