/- Words for instances in memory: slices that read as lists, rows of rows. -/
import Derived.Test.YtklomjpnmmaogaaDoorMem
import Derived.Test.YtklomjpnmmaogaaDoorNumMath
namespace Go.Proofs.YtklomjpnmmaogaaDoor
open Go Go.RowKit
set_option linter.unusedVariables false
set_option linter.unusedSimpArgs false
set_option maxRecDepth 100000

theorem block_of_add (a : Addr) (n : Nat) : (a.add n).block = a.block := by unfold Addr.add; split <;> rfl
theorem add_of_add (a : Addr) (i j : Nat) : (a.add i).add j = a.add (i + j) := by
  unfold Addr.add
  by_cases hi : i = 0 <;> by_cases hj : j = 0 <;> simp [hi, hj, Nat.add_assoc]

/-- n elements of so many cells each read as these cells; they lie below block B. -/
structure Reads (w : World) (B size : Nat) (A : Option Addr) (n : Nat) (xs : List Value) : Prop where
  len : xs.length = n * size
  at_ : 0 < n → ∃ b o, A = some ⟨b, o, none⟩ ∧ b < B ∧ ∀ j u, xs[j]? = some u → w.cell? ⟨b, o + j, none⟩ = some u
/-- What lies below a block reads in both worlds alike. -/
def Alike (B : Nat) (w w' : World) : Prop := ∀ p : Addr, p.block < B → w'.cell? p = w.cell? p
theorem Alike.of_below {B : Nat} {w w' : World} (h : Below w.heap.size w w') (hB : B ≤ w.heap.size) : Alike B w w' := fun p hp => h.cell (by omega)
theorem Alike.trans {B : Nat} {a b c : World} (h : Alike B a b) (k : Alike B b c) : Alike B a c := fun p hp => (k p hp).trans (h p hp)
theorem Alike.refl (B : Nat) (w : World) : Alike B w w := fun _ _ => rfl
section
variable {w w' : World} {B B' size n : Nat} {A : Option Addr} {xs : List Value}
theorem Reads.none_ (w : World) (B size : Nat) (A : Option Addr) : Reads w B size A 0 [] := ⟨by simp, fun h => absurd h (by omega)⟩
theorem Reads.keep (h : Reads w B size A n xs) (hk : Alike B w w') : Reads w' B size A n xs :=
  ⟨h.len, fun hn => by
    obtain ⟨b, o, e, hb, hc⟩ := h.at_ hn
    exact ⟨b, o, e, hb, fun j u hu => (hk ⟨b, o + j, none⟩ hb).trans (hc j u hu)⟩⟩
theorem Reads.more (h : Reads w B size A n xs) (hB : B ≤ B') : Reads w B' size A n xs :=
  ⟨h.len, fun hn => by
    obtain ⟨b, o, e, hb, hc⟩ := h.at_ hn
    exact ⟨b, o, e, by omega, hc⟩⟩
theorem Reads.of_own {base : Nat} {e : TypeId} {c : Nat} (h : w.ownsRow base e size (.slice A n c) n xs) : Reads w w.heap.size size A n xs := by
  refine ⟨h.1, fun hn => ?_⟩
  obtain ⟨g, cap, hv, _, hlt⟩ := h.form hn
  have hA : A = some ⟨g, 0, none⟩ := by injection hv
  subst hA
  refine ⟨g, 0, rfl, hlt, fun j u hu => ?_⟩
  have := h.cells (g := g) rfl j u hu
  rw [show (⟨g, 0 + j, none⟩ : Addr) = (⟨g, 0, none⟩ : Addr).add j by unfold Addr.add; split <;> simp_all]
  exact this
theorem Reads.cut (h : Reads w B size A n xs) {k : Nat} (hk : k ≤ n) : Reads w B size A k (xs.take (k * size)) := by
  refine ⟨by rw [List.length_take, h.len, Nat.min_eq_left (Nat.mul_le_mul_right _ hk)], fun hn => ?_⟩
  obtain ⟨b, o, e, hb, hc⟩ := h.at_ (by omega)
  refine ⟨b, o, e, hb, fun j u hu => hc j u ?_⟩
  rw [List.getElem?_take] at hu
  split at hu
  · exact hu
  · cases hu
theorem Reads.get (h : Reads w B size A n xs) {j : Nat} {u : Value} (hu : xs[j]? = some u) (hs : 0 < n) : ∃ b o, A = some ⟨b, o, none⟩ ∧ b < B ∧ w.cell? ⟨b, o + j, none⟩ = some u := by
  obtain ⟨b, o, e, hb, hc⟩ := h.at_ hs
  exact ⟨b, o, e, hb, hc j u hu⟩
end

/-- Pairs of values, cell by cell. -/
def flat2 : List (Value × Value) → List Value
  | [] => []
  | p :: r => p.1 :: p.2 :: flat2 r
theorem flat2_length : ∀ rs : List (Value × Value), (flat2 rs).length = rs.length * 2
  | [] => rfl
  | p :: r => by simp only [flat2, List.length_cons, flat2_length r]; omega
theorem flat2_get : ∀ (rs : List (Value × Value)) (i : Nat) (p : Value × Value), rs[i]? = some p → (flat2 rs)[i * 2]? = some p.1 ∧ (flat2 rs)[i * 2 + 1]? = some p.2
  | [], i, p, h => by simp at h
  | q :: r, 0, p, h => by simp at h; subst h; exact ⟨rfl, rfl⟩
  | q :: r, i + 1, p, h => by
    have h1 := flat2_get r i p (by simpa using h)
    simp only [flat2]
    rw [show (i + 1) * 2 = i * 2 + 1 + 1 by omega]
    simpa using h1
theorem flat2_app (rs : List (Value × Value)) (p : Value × Value) : flat2 (rs ++ [p]) = flat2 rs ++ [p.1, p.2] := by
  induction rs with
  | nil => rfl
  | cons q r ih => simp only [List.cons_append, flat2, ih]
theorem flat2_take (rs : List (Value × Value)) (k : Nat) : (flat2 rs).take (k * 2) = flat2 (rs.take k) := by
  induction rs generalizing k with
  | nil => simp [flat2]
  | cons q r ih =>
    cases k with
    | zero => simp [flat2]
    | succ k =>
      rw [show (k + 1) * 2 = k * 2 + 1 + 1 by omega]
      simp only [flat2, List.take_succ_cons, ih]

def pairI (p : Int × Int) : Value × Value := (.int .i64 p.1, .int .i64 p.2)
/-- A slice of numbers, of pairs of numbers. -/
def RdI (w : World) (B : Nat) (A : Option Addr) (l : List Int) : Prop := Reads w B 1 A l.length (l.map (Value.int .i64))
def RdP (w : World) (B : Nat) (A : Option Addr) (l : List (Int × Int)) : Prop := Reads w B 2 A l.length (flat2 (l.map pairI))
/-- A value that is a slice of numbers. -/
def HdAt (w : World) (B : Nat) (u : Value) (r : List Int) : Prop := ∃ A c, u = .slice A r.length c ∧ r.length ≤ c ∧ c ≤ 9223372036854775807 ∧ RdI w B A r
/-- A slice of slices of numbers; a slice of numbers with slices of numbers. -/
def RdR (w : World) (B : Nat) (A : Option Addr) (rows : List (List Int)) : Prop := ∃ vs : List Value, vs.length = rows.length ∧ Reads w B 1 A rows.length vs ∧ ∀ (i : Nat) (r : List Int) (u : Value), rows[i]? = some r → vs[i]? = some u → HdAt w B u r
def RdS (w : World) (B : Nat) (A : Option Addr) (l : List (Int × List Int)) : Prop := ∃ vs : List (Value × Value), vs.length = l.length ∧ Reads w B 2 A l.length (flat2 vs) ∧ ∀ (i : Nat) (p : Int × List Int) (u : Value × Value), l[i]? = some p → vs[i]? = some u → u.1 = .int .i64 p.1 ∧ HdAt w B u.2 p.2
section
variable {w w' : World} {B B' : Nat} {A : Option Addr}
theorem RdI.keep {l : List Int} (h : RdI w B A l) (hk : Alike B w w') : RdI w' B A l := Reads.keep h hk
theorem RdP.keep {l : List (Int × Int)} (h : RdP w B A l) (hk : Alike B w w') : RdP w' B A l := Reads.keep h hk
theorem HdAt.keep {u : Value} {r : List Int} (h : HdAt w B u r) (hk : Alike B w w') : HdAt w' B u r := by
  obtain ⟨A, c, e, h1, h2, h3⟩ := h
  exact ⟨A, c, e, h1, h2, h3.keep hk⟩
theorem RdR.keep {rows : List (List Int)} (h : RdR w B A rows) (hk : Alike B w w') : RdR w' B A rows := by
  obtain ⟨vs, h1, h2, h3⟩ := h
  exact ⟨vs, h1, h2.keep hk, fun i r u hr hu => (h3 i r u hr hu).keep hk⟩
theorem RdS.keep {l : List (Int × List Int)} (h : RdS w B A l) (hk : Alike B w w') : RdS w' B A l := by
  obtain ⟨vs, h1, h2, h3⟩ := h
  exact ⟨vs, h1, h2.keep hk, fun i r u hr hu => ⟨(h3 i r u hr hu).1, (h3 i r u hr hu).2.keep hk⟩⟩
theorem RdI.more {l : List Int} (h : RdI w B A l) (hB : B ≤ B') : RdI w B' A l := Reads.more h hB
theorem RdP.more {l : List (Int × Int)} (h : RdP w B A l) (hB : B ≤ B') : RdP w B' A l := Reads.more h hB
theorem HdAt.more {u : Value} {r : List Int} (h : HdAt w B u r) (hB : B ≤ B') : HdAt w B' u r := by
  obtain ⟨A, c, e, h1, h2, h3⟩ := h
  exact ⟨A, c, e, h1, h2, h3.more hB⟩
theorem RdR.more {rows : List (List Int)} (h : RdR w B A rows) (hB : B ≤ B') : RdR w B' A rows := by
  obtain ⟨vs, h1, h2, h3⟩ := h
  exact ⟨vs, h1, h2.more hB, fun i r u hr hu => (h3 i r u hr hu).more hB⟩
theorem RdS.more {l : List (Int × List Int)} (h : RdS w B A l) (hB : B ≤ B') : RdS w B' A l := by
  obtain ⟨vs, h1, h2, h3⟩ := h
  exact ⟨vs, h1, h2.more hB, fun i r u hr hu => ⟨(h3 i r u hr hu).1, (h3 i r u hr hu).2.more hB⟩⟩
theorem pos_of_get {α : Type} {l : List α} {k : Nat} {x : α} (h : l[k]? = some x) : 0 < l.length := by have := (List.getElem?_eq_some_iff.1 h).1; omega
/-- What a walk reads at a place. -/
theorem RdI.get {l : List Int} (h : RdI w B A l) {k : Nat} {x : Int} (hx : l[k]? = some x) : ∃ b o, A = some ⟨b, o, none⟩ ∧ b < B ∧ w.cell? ⟨b, o + k, none⟩ = some (.int .i64 x) :=
  Reads.get h (by rw [List.getElem?_map, hx]; rfl) (pos_of_get hx)
theorem RdP.get {l : List (Int × Int)} (h : RdP w B A l) {k : Nat} {p : Int × Int} (hp : l[k]? = some p) : ∃ b o, A = some ⟨b, o, none⟩ ∧ b < B ∧ w.cell? ⟨b, o + k * 2, none⟩ = some (.int .i64 p.1) ∧ w.cell? ⟨b, o + k * 2 + 1, none⟩ = some (.int .i64 p.2) := by
  obtain ⟨a1, a2⟩ := flat2_get (l.map pairI) k (pairI p) (by rw [List.getElem?_map, hp]; rfl)
  obtain ⟨b, o, e, hb, hc⟩ := h.at_ (pos_of_get hp)
  exact ⟨b, o, e, hb, hc _ _ a1, by rw [Nat.add_assoc]; exact hc _ _ a2⟩
theorem RdR.get {rows : List (List Int)} (h : RdR w B A rows) {k : Nat} {r : List Int} (hr : rows[k]? = some r) : ∃ b o A' c', A = some ⟨b, o, none⟩ ∧ b < B ∧ w.cell? ⟨b, o + k, none⟩ = some (.slice A' r.length c') ∧ r.length ≤ c' ∧ c' ≤ 9223372036854775807 ∧ RdI w B A' r := by
  obtain ⟨vs, h1, h2, h3⟩ := h
  have hk : k < vs.length := by have := (List.getElem?_eq_some_iff.1 hr).1; omega
  have hu := List.getElem?_eq_getElem hk
  obtain ⟨b, o, e, hb, hc⟩ := h2.get hu (pos_of_get hr)
  obtain ⟨A', c', e', h4, h5, h6⟩ := h3 k r _ hr hu
  rw [e'] at hc
  exact ⟨b, o, A', c', e, hb, hc, h4, h5, h6⟩
theorem RdS.get {l : List (Int × List Int)} (h : RdS w B A l) {k : Nat} {p : Int × List Int} (hp : l[k]? = some p) : ∃ b o A' c', A = some ⟨b, o, none⟩ ∧ b < B ∧ w.cell? ⟨b, o + k * 2, none⟩ = some (.int .i64 p.1) ∧ w.cell? ⟨b, o + k * 2 + 1, none⟩ = some (.slice A' p.2.length c') ∧ p.2.length ≤ c' ∧ c' ≤ 9223372036854775807 ∧ RdI w B A' p.2 := by
  obtain ⟨vs, h1, h2, h3⟩ := h
  have hk : k < vs.length := by have := (List.getElem?_eq_some_iff.1 hp).1; omega
  have hu := List.getElem?_eq_getElem hk
  obtain ⟨a1, a2⟩ := flat2_get vs k _ hu
  obtain ⟨b, o, e, hb, hc⟩ := h2.at_ (pos_of_get hp)
  obtain ⟨e1, A', c', e', h4, h5, h6⟩ := h3 k p _ hp hu
  have c1 := hc _ _ a1
  have c2 := hc _ _ a2
  rw [e1] at c1
  rw [e'] at c2
  exact ⟨b, o, A', c', e, hb, c1, by rw [Nat.add_assoc]; exact c2, h4, h5, h6⟩
end

/-- An instance as plain data. -/
structure IData where
  kind : Int
  cap : Int
  items : List (Int × Int)
  cost : List (List Int)
  size : Int
  sets : List (Int × List Int)
/-- Its numbers have their places. -/
structure IIn (I : IData) : Prop where
  kind : InI I.kind
  cap : InI I.cap
  size : InI I.size
  items : ∀ p ∈ I.items, InI p.1 ∧ InI p.2
  cost : ∀ r ∈ I.cost, ∀ x ∈ r, InI x
  sets : ∀ p ∈ I.sets, InI p.1 ∧ ∀ x ∈ p.2, InI x
/-- Its three slices lie in memory. -/
structure InstAt (w : World) (B : Nat) (I : IData) (A1 : Option Addr) (c1 : Nat) (A2 : Option Addr) (c2 : Nat) (A3 : Option Addr) (c3 : Nat) : Prop where
  items : RdP w B A1 I.items
  cost : RdR w B A2 I.cost
  sets : RdS w B A3 I.sets
  n1 : I.items.length ≤ c1 ∧ c1 ≤ 9223372036854775807
  n2 : I.cost.length ≤ c2 ∧ c2 ≤ 9223372036854775807
  n3 : I.sets.length ≤ c3 ∧ c3 ≤ 9223372036854775807
  in_ : IIn I
  bd : B ≤ w.heap.size
theorem InstAt.below {w w' : World} {B : Nat} {I : IData} {A1 A2 A3 : Option Addr} {c1 c2 c3 : Nat} (h : InstAt w B I A1 c1 A2 c2 A3 c3) (hb : Below w.heap.size w w') : InstAt w' B I A1 c1 A2 c2 A3 c3 := by
  have hk := Alike.of_below hb h.bd
  exact ⟨h.items.keep hk, h.cost.keep hk, h.sets.keep hk, h.n1, h.n2, h.n3, h.in_, by have := h.bd; have := hb.size; omega⟩
theorem InstAt.more {w : World} {B B' : Nat} {I : IData} {A1 A2 A3 : Option Addr} {c1 c2 c3 : Nat} (h : InstAt w B I A1 c1 A2 c2 A3 c3) (hB : B ≤ B') (hw : B' ≤ w.heap.size) : InstAt w B' I A1 c1 A2 c2 A3 c3 :=
  ⟨h.items.more hB, h.cost.more hB, h.sets.more hB, h.n1, h.n2, h.n3, h.in_, hw⟩
end Go.Proofs.YtklomjpnmmaogaaDoor
