/- An argument that is a list of runes, opened to what stands in memory. -/
import Derived.Test.YtidpenifabojnaaDoorProg
import Derived.Test.YtidpenifabojnaaDoorIMem
import Derived.Test.YtidpenifabojnaaDoorRowLaw
import Derived.KernelRfl
import Derived.Deep.Slices
import Derived.SizedLaws
namespace Go.Proofs.YtidpenifabojnaaDoor
open Go Go.RowKit Go.WideShapes Go.ChangeShapes Go.ChangeAt
set_option linter.unusedVariables false
set_option linter.unusedSimpArgs false
set_option maxRecDepth 100000
/-- A list out of its places. -/
theorem list_of {α : Type} [Inhabited α] {R : Nat → α → Prop} {n : Nat} (h : ∀ i, i < n → ∃ x, R i x) : ∃ l : List α, l.length = n ∧ ∀ i x, l[i]? = some x → R i x := by
  classical
  refine ⟨(List.range n).map fun i => if hi : i < n then Classical.choose (h i hi) else default, by simp, fun i x hx => ?_⟩
  simp only [List.getElem?_map, Option.map_eq_some_iff] at hx
  obtain ⟨j, hj, rfl⟩ := hx
  obtain ⟨hj1, rfl⟩ := List.getElem?_eq_some_iff.1 hj
  simp only [List.getElem_range] at *
  have hn : i < n := by simpa using hj1
  rw [dif_pos hn]
  exact Classical.choose_spec (h i hn)
theorem cell_lt {w : World} {b o : Nat} {u : Value} (h : w.cell? ⟨b, o, none⟩ = some u) : b < w.heap.size := by
  unfold World.cell? at h
  by_cases hb : b < w.heap.size
  · exact hb
  · rw [Array.getElem?_eq_none (by simpa using hb)] at h
    simp at h
theorem cell_spot {w : World} {a : Addr} {u : Value} (h : w.cell? a = some u) : a.spot = none := by
  unfold World.cell? at h
  split at h
  · split at h
    · cases h
    · rename_i hs; simpa using hs
  · cases h
section
variable {H : Type} {enc : TypeId × Value → H} {P : Program} {w : World} {base : Nat} {sp : Nat → Bool} {held : Bool}
/-- A slice: the cells of each element, and what the element reads as. -/
theorem open_row1 {t e : TypeId} {fuel s : Nat} {v : Value} {x : DataW H × List MemPlace} (ht : P.underlying t = some (.slice e)) (hs : P.cellsOf e = s) (h0 : 0 < s) (h : DataW.trod enc P w base sp held fuel t [v] = some x) :
    ∃ (A : Option Addr) (n c : Nat), v = .slice A n c ∧ n ≤ c ∧ c ≤ 9223372036854775807 ∧ (0 < n → ∃ b o, A = some ⟨b, o, none⟩ ∧ b < w.heap.size ∧ ∀ i, i < n → ∃ (cs : List Value) (m : Nat) (y : DataW H × List MemPlace), cs.length = s ∧ (∀ j u, cs[j]? = some u → w.cell? ⟨b, o + (i * s + j), none⟩ = some u) ∧ DataW.trod enc P w base sp held m e cs = some y) := by
  rcases Go.Deep.open_slice ht h with ⟨hcs, _⟩ | ⟨a, len, cap, m, n, D, Pl, hcs, hb, hl, hm, hmm, hx, hi⟩
  · simp at hcs
    subst hcs
    exact ⟨none, 0, 0, rfl, Nat.le_refl _, by decide, fun h => absurd h (by omega)⟩
  · simp at hcs
    subst hcs
    refine ⟨some a, len, cap, rfl, hl, hm, fun hn => ?_⟩
    have hlm : len ≤ m := by rw [hmm]; split <;> omega
    rw [hs] at hi
    obtain ⟨cs0, hc0, _⟩ := hi 0 (by omega)
    obtain ⟨_, hl0, hat0⟩ := World.cells?_some hc0
    have hc00 : w.cell? a = some (cs0[0]'(by omega)) := by
      have := hat0 0 h0
      simpa [Addr.add, List.getElem?_eq_getElem (show 0 < cs0.length by omega)] using this
    have hsp := cell_spot hc00
    obtain ⟨b, o, spt⟩ := a
    simp only at hsp
    subst hsp
    refine ⟨b, o, rfl, cell_lt hc00, fun i hin => ?_⟩
    obtain ⟨cs, hc, ht⟩ := hi i (by omega)
    obtain ⟨_, hl', hat⟩ := World.cells?_some hc
    refine ⟨cs, n, _, hl', fun j u hj => ?_, ht⟩
    have hjl : j < s := by have := (List.getElem?_eq_some_iff.1 hj).1; omega
    have := hat j hjl
    rw [add_of_add, hj] at this
    rw [← this]
    unfold Addr.add
    split
    · rename_i h; rw [h]; rfl
    · rfl
/-- A slice of runes. -/
theorem open_rns {t e : TypeId} {fuel : Nat} {v : Value} {x : DataW H × List MemPlace} (ht : P.underlying t = some (.slice e)) (he : P.underlying e = some (.int .i32)) (hs : P.cellsOf e = 1) (h : DataW.trod enc P w base sp held fuel t [v] = some x) :
    ∃ (A : Option Addr) (l : List Int) (c : Nat), v = .slice A l.length c ∧ l.length ≤ c ∧ c ≤ 9223372036854775807 ∧ Reads w w.heap.size 1 A l.length (l.map (Value.int .i32)) := by
  obtain ⟨A, n, c, rfl, h1, h2, h3⟩ := open_row1 ht hs (by omega) h
  have : ∃ l : List Int, l.length = n ∧ ∀ i z, l[i]? = some z → ∃ b o, A = some ⟨b, o, none⟩ ∧ b < w.heap.size ∧ w.cell? ⟨b, o + i, none⟩ = some (.int .i32 z) := list_of fun i hi => by
    obtain ⟨b, o, e1, hb, hc⟩ := h3 (by omega)
    obtain ⟨cs, m, y, hl, hat, hy⟩ := hc i hi
    obtain ⟨z, rfl, _, hw⟩ := DataW.trod_int he hy
    exact ⟨z, b, o, e1, hb, by simpa using hat 0 _ rfl⟩
  obtain ⟨l, rfl, hl⟩ := this
  refine ⟨A, l, c, rfl, h1, h2, by simp, fun hn => ?_⟩
  obtain ⟨b, o, e1, hb, _⟩ := h3 hn
  refine ⟨b, o, e1, hb, fun j u hu => ?_⟩
  simp only [List.getElem?_map, Option.map_eq_some_iff] at hu
  obtain ⟨z, hz, rfl⟩ := hu
  obtain ⟨b', o', e2, _, hc⟩ := hl j z hz
  rw [e1] at e2
  simp at e2
  obtain ⟨rfl, rfl⟩ := e2
  exact hc
end
theorem open_ru {H : Type} {enc : TypeId × Value → H} {W : World} {base b : Nat} {sp : Nat → Bool} {held : Bool} {v : Value} {d : DataW H} {p : List MemPlace} (hv : Value.okWide Tryd.prog W .any base 22 v) (h : DataW.Trod enc Tryd.prog W b sp held 22 v d p) :
    ∃ (A : Option Addr) (l : List Int) (c : Nat), v = .slice A l.length c ∧ l.length ≤ c ∧ c ≤ 9223372036854775807 ∧ Reads W W.heap.size 1 A l.length (l.map (Value.int .i32)) := by
  obtain ⟨a0, len, cap, rfl⟩ := okWide_slice Tryd.underlying22 hv
  obtain ⟨fuel, hf⟩ := h
  exact open_rns Tryd.underlying22 Tryd.underlying21 (by kernel_rfl) hf
end Go.Proofs.YtidpenifabojnaaDoor
