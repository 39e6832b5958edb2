/- Words for numbers by their digits, as they lie in memory. -/
import Derived.Test.YtkdklmkcanjjfaaDoorMem
import Derived.Test.YtkdklmkcanjjfaaDoorBigMath
import Derived.Test.YtkdklmkcanjjfaaDoorNumMath
namespace Go.Proofs.YtkdklmkcanjjfaaDoor
open Go Go.RowKit
set_option linter.unusedVariables false
set_option linter.unusedSimpArgs false
set_option maxRecDepth 100000

/-- A slice (its address) that lies in a block of cells of type t, and reads as xs. -/
structure RdT (w : World) (t : TypeId) (A : Option Addr) (xs : List Value) : Prop where
  out : xs = [] ∨ ∃ g off cs fr, A = some ⟨g, off, none⟩ ∧ w.heap[g]? = some (.cells cs t fr) ∧ ∀ j u, xs[j]? = some u → cs[off + j]? = some u

section
variable {w w' : World} {t : TypeId} {A : Option Addr} {xs : List Value}
theorem RdT.nil_ (w : World) (t : TypeId) (A : Option Addr) : RdT w t A [] := ⟨.inl rfl⟩
theorem RdT.keep (h : RdT w t A xs) (hk : ∀ (g : Nat) (cs : Array Value) (fr : Nat × Nat), w.heap[g]? = some (Obj.cells cs t fr) → w'.heap[g]? = w.heap[g]?) : RdT w' t A xs := by
  rcases h.out with h | ⟨g, off, cs, fr, e, hg, hc⟩
  · exact ⟨.inl h⟩
  · exact ⟨.inr ⟨g, off, cs, fr, e, (hk g cs fr hg).trans hg, hc⟩⟩
theorem RdT.below (h : RdT w t A xs) (hb : Below w.heap.size w w') : RdT w' t A xs :=
  h.keep fun g _ _ hg => hb.block g (Array.getElem?_eq_some_iff.1 hg).1
theorem RdT.drew (h : RdT w t A xs) : RdT w.drew t A xs := h.keep fun _ _ _ _ => rfl
theorem RdT.drewN (h : RdT w t A xs) (n : Nat) : RdT (w.drewN n) t A xs := h.keep fun _ _ _ _ => rfl
theorem RdT.alloc (h : RdT w t A xs) (o : Obj) : RdT (w.alloc o) t A xs := h.below (bl_alloc (Below.refl _ _) _)
/-- A store into a block of other cells. -/
theorem RdT.set_ (h : RdT w t A xs) {p : Addr} {t' : TypeId} {cs' : Array Value} (hp : Blk w p.block t' cs') (hne : t ≠ t') (u : Value) : RdT (w.setCell p u) t A xs :=
  h.keep fun g cs fr hg => Below.heap_setCell w p u g (by
    rintro rfl
    rw [hp.out] at hg
    injection hg with hg
    injection hg with _ ht
    exact hne ht.symm)
theorem RdT.of_own {base : Nat} {size : Nat} {c n : Nat} (h : w.ownsRow base t size (.slice A n c) n xs) : RdT w t A xs := by
  by_cases hx : xs = []
  · exact ⟨.inl hx⟩
  · rcases h.2 with ⟨hv, h0⟩ | ⟨g, cap, cur, hv, _, hh, hr⟩
    · exact ⟨.inl (by have := h.1; subst h0; simpa using this)⟩
    · injection hv with hA
      refine ⟨.inr ⟨g, 0, cur, (0, 0), hA, hh, fun j u hu => ?_⟩⟩
      have e := hr.2.2.2
      rw [← e, List.getElem?_take] at hu
      split at hu
      · simpa using hu
      · cases hu
theorem RdT.take_ (h : RdT w t A xs) (n : Nat) : RdT w t A (xs.take n) := by
  rcases h.out with h | ⟨g, off, cs, fr, e, hg, hc⟩
  · exact ⟨.inl (by simp [h])⟩
  · refine ⟨.inr ⟨g, off, cs, fr, e, hg, fun j u hu => hc j u ?_⟩⟩
    rw [List.getElem?_take] at hu
    split at hu
    · exact hu
    · cases hu
theorem RdT.at_ (h : RdT w t A xs) (k : Nat) (hk : k < xs.length) : ∃ ad, A = some ad ∧ w.cell? (ad.add k) = some xs[k] := by
  rcases h.out with h | ⟨g, off, cs, fr, rfl, hg, hc⟩
  · subst h; simp at hk
  · refine ⟨_, rfl, ?_⟩
    have ha : (⟨g, off, none⟩ : Addr).add k = ⟨g, off + k, none⟩ := by unfold Addr.add; split <;> simp_all
    rw [ha, cell_of_row w g (off + k) cs t fr hg]
    exact hc k _ (List.getElem?_eq_getElem hk)
end

/-- A digit as a value. -/
def dvs (ds : List Nat) : List Value := ds.map fun (d : Nat) => Value.int .u64 (d : Int)
theorem dvs_length (ds : List Nat) : (dvs ds).length = ds.length := by simp [dvs]
theorem dvs_take (ds : List Nat) (n : Nat) : (dvs ds).take n = dvs (ds.take n) := by simp [dvs]
theorem dvs_get (ds : List Nat) (k : Nat) (hk : k < ds.length) : (dvs ds)[k]'(by rw [dvs_length]; exact hk) = .int .u64 (ds[k] : Int) := by simp [dvs]
theorem dvs_snoc (ds : List Nat) (d : Nat) : dvs (ds ++ [d]) = dvs ds ++ [.int .u64 (d : Int)] := by simp [dvs]

/-- What a sign and digits are worth. -/
def sval (n : Bool) (ds : List Nat) : Int := if n = true then -(dval ds : Int) else dval ds
/-- A number by a sign and digits, which lie at A in a world: a capacity, a worth. -/
structure BigD (w : World) (n : Bool) (A : Option Addr) (m c : Nat) (ds : List Nat) : Prop where
  len : m = ds.length
  cap : m ≤ c
  capm : c ≤ 9223372036854775807
  digs : Digs ds
  rd : RdT w 82 A (dvs ds)

/-- The same, without noughts ahead: the number z. -/
structure BigV (w : World) (n : Bool) (A : Option Addr) (m c : Nat) (z : Int) : Prop where
  out : ∃ ds, BigD w n A m c ds ∧ NoLead ds ∧ n = decide (z < 0) ∧ dval ds = z.natAbs

section
variable {w w' : World} {n : Bool} {A : Option Addr} {m c : Nat} {z : Int} {ds : List Nat}
theorem BigD.below (h : BigD w n A m c ds) (hb : Below w.heap.size w w') : BigD w' n A m c ds := ⟨h.len, h.cap, h.capm, h.digs, h.rd.below hb⟩
theorem BigD.drew (h : BigD w n A m c ds) : BigD w.drew n A m c ds := ⟨h.len, h.cap, h.capm, h.digs, h.rd.drew⟩
theorem BigV.below (h : BigV w n A m c z) (hb : Below w.heap.size w w') : BigV w' n A m c z := by
  obtain ⟨ds, h1, h2⟩ := h.out
  exact ⟨ds, h1.below hb, h2⟩
theorem BigV.drew (h : BigV w n A m c z) : BigV w.drew n A m c z := by
  obtain ⟨ds, h1, h2⟩ := h.out
  exact ⟨ds, h1.drew, h2⟩
theorem BigV.set_ (h : BigV w n A m c z) {p : Addr} {t' : TypeId} {cs' : Array Value} (hp : Blk w p.block t' cs') (hne : 82 ≠ t') (u : Value) : BigV (w.setCell p u) n A m c z := by
  obtain ⟨ds, h1, h2⟩ := h.out
  exact ⟨ds, ⟨h1.len, h1.cap, h1.capm, h1.digs, h1.rd.set_ hp hne u⟩, h2⟩
end

/-- It returns the number z by its digits; what there was is as it was. -/
def RetBig (z : Int) (w : World) (e : Ending) (w' : World) : Prop := ∃ n A m c, e = .returned (.agg #[.bool n, .slice A m c]) ∧ BigV w' n A m c z ∧ Below w.heap.size w w'
end Go.Proofs.YtkdklmkcanjjfaaDoor
