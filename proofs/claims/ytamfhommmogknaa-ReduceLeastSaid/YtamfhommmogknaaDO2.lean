/- Arguments that are rows of rows, opened to what stands in memory. -/
import Derived.Test.YtamfhommmogknaaProg
import Derived.Test.YtamfhommmogknaaIMem
import Derived.Test.YtamfhommmogknaaDA
import Derived.Test.YtamfhommmogknaaRowLaw
import Derived.KernelRfl
import Derived.Deep.Slices
import Derived.SizedLaws
namespace Go.Proofs.Ytamfhommmogknaa
open Go Go.RowKit Go.WideShapes Go.ChangeShapes Go.ChangeAt
set_option linter.unusedVariables false
set_option linter.unusedSimpArgs false
set_option maxRecDepth 100000
theorem flat2_inv : ∀ (rs : List (Value × Value)) (j : Nat) (u : Value), (flat2 rs)[j]? = some u → ∃ i p, rs[i]? = some p ∧ ((j = i * 2 ∧ u = p.1) ∨ (j = i * 2 + 1 ∧ u = p.2))
  | [], j, u, h => by simp [flat2] at h
  | q :: r, 0, u, h => by simp [flat2] at h; exact ⟨0, q, rfl, .inl ⟨rfl, h.symm⟩⟩
  | q :: r, 1, u, h => by simp [flat2] at h; exact ⟨0, q, rfl, .inr ⟨rfl, h.symm⟩⟩
  | q :: r, j + 2, u, h => by
    obtain ⟨i, p, h1, h2⟩ := flat2_inv r j u (by simpa [flat2] using h)
    exact ⟨i + 1, p, by simpa using h1, by rcases h2 with ⟨a, b⟩ | ⟨a, b⟩; · exact .inl ⟨by omega, b⟩
                                           · exact .inr ⟨by omega, b⟩⟩
/-- A list out of its places. -/
theorem list_of {α : Type} [Inhabited α] {R : Nat → α → Prop} {n : Nat} (h : ∀ i, i < n → ∃ x, R i x) : ∃ l : List α, l.length = n ∧ ∀ i x, l[i]? = some x → R i x := by
  classical
  refine ⟨(List.range n).map fun i => if hi : i < n then Classical.choose (h i hi) else default, by simp, fun i x hx => ?_⟩
  simp only [List.getElem?_map, Option.map_eq_some_iff] at hx
  obtain ⟨j, hj, rfl⟩ := hx
  obtain ⟨hj1, rfl⟩ := List.getElem?_eq_some_iff.1 hj
  simp only [List.getElem_range] at *
  have hn : i < n := by simpa using hj1
  rw [dif_pos hn]
  exact Classical.choose_spec (h i hn)
theorem cell_lt {w : World} {b o : Nat} {u : Value} (h : w.cell? ⟨b, o, none⟩ = some u) : b < w.heap.size := by
  unfold World.cell? at h
  by_cases hb : b < w.heap.size
  · exact hb
  · rw [Array.getElem?_eq_none (by simpa using hb)] at h
    simp at h
theorem cell_spot {w : World} {a : Addr} {u : Value} (h : w.cell? a = some u) : a.spot = none := by
  unfold World.cell? at h
  split at h
  · split at h
    · cases h
    · rename_i hs; simpa using hs
  · cases h
section
variable {H : Type} {enc : TypeId × Value → H} {P : Program} {w : World} {base : Nat} {sp : Nat → Bool} {held : Bool}
/-- A slice: the cells of each element, and what the element reads as. -/
theorem open_row1 {t e : TypeId} {fuel s : Nat} {v : Value} {x : DataW H × List MemPlace} (ht : P.underlying t = some (.slice e)) (hs : P.cellsOf e = s) (h0 : 0 < s) (h : DataW.trod enc P w base sp held fuel t [v] = some x) :
    ∃ (A : Option Addr) (n c : Nat), v = .slice A n c ∧ n ≤ c ∧ c ≤ 9223372036854775807 ∧ (0 < n → ∃ b o, A = some ⟨b, o, none⟩ ∧ b < w.heap.size ∧ ∀ i, i < n → ∃ (cs : List Value) (m : Nat) (y : DataW H × List MemPlace), cs.length = s ∧ (∀ j u, cs[j]? = some u → w.cell? ⟨b, o + (i * s + j), none⟩ = some u) ∧ DataW.trod enc P w base sp held m e cs = some y) := by
  rcases Go.Deep.open_slice ht h with ⟨hcs, _⟩ | ⟨a, len, cap, m, n, D, Pl, hcs, hb, hl, hm, hmm, hx, hi⟩
  · simp at hcs
    subst hcs
    exact ⟨none, 0, 0, rfl, Nat.le_refl _, by decide, fun h => absurd h (by omega)⟩
  · simp at hcs
    subst hcs
    refine ⟨some a, len, cap, rfl, hl, hm, fun hn => ?_⟩
    have hlm : len ≤ m := by rw [hmm]; split <;> omega
    rw [hs] at hi
    obtain ⟨cs0, hc0, _⟩ := hi 0 (by omega)
    obtain ⟨_, hl0, hat0⟩ := World.cells?_some hc0
    have hc00 : w.cell? a = some (cs0[0]'(by omega)) := by
      have := hat0 0 h0
      simpa [Addr.add, List.getElem?_eq_getElem (show 0 < cs0.length by omega)] using this
    have hsp := cell_spot hc00
    obtain ⟨b, o, spt⟩ := a
    simp only at hsp
    subst hsp
    refine ⟨b, o, rfl, cell_lt hc00, fun i hin => ?_⟩
    obtain ⟨cs, hc, ht⟩ := hi i (by omega)
    obtain ⟨_, hl', hat⟩ := World.cells?_some hc
    refine ⟨cs, n, _, hl', fun j u hj => ?_, ht⟩
    have hjl : j < s := by have := (List.getElem?_eq_some_iff.1 hj).1; omega
    have := hat j hjl
    rw [add_of_add, hj] at this
    rw [← this]
    unfold Addr.add
    split
    · rename_i h; rw [h]; rfl
    · rfl
theorem wf_in {n : Int} (h : (Lit.int .i64 n).wf = true) : InI n := by
  have := bounds_i64 h
  exact ⟨by omega, by omega⟩
/-- A slice of numbers. -/
theorem open_nums {t e : TypeId} {fuel : Nat} {v : Value} {x : DataW H × List MemPlace} (ht : P.underlying t = some (.slice e)) (he : P.underlying e = some (.int .i64)) (hs : P.cellsOf e = 1) (h : DataW.trod enc P w base sp held fuel t [v] = some x) :
    ∃ r, HdAt w w.heap.size v r ∧ ∀ z ∈ r, InI z := by
  obtain ⟨A, n, c, rfl, h1, h2, h3⟩ := open_row1 ht hs (by omega) h
  have : ∃ l : List Int, l.length = n ∧ ∀ i z, l[i]? = some z → InI z ∧ ∃ b o, A = some ⟨b, o, none⟩ ∧ b < w.heap.size ∧ w.cell? ⟨b, o + i, none⟩ = some (.int .i64 z) := list_of fun i hi => by
    obtain ⟨b, o, e1, hb, hc⟩ := h3 (by omega)
    obtain ⟨cs, m, y, hl, hat, hy⟩ := hc i hi
    obtain ⟨z, rfl, _, hw⟩ := DataW.trod_int he hy
    exact ⟨z, wf_in hw, b, o, e1, hb, by simpa using hat 0 _ rfl⟩
  obtain ⟨l, rfl, hl⟩ := this
  refine ⟨l, ⟨A, c, rfl, h1, h2, by simp, fun hn => ?_⟩, fun z hz => ?_⟩
  · obtain ⟨b, o, e1, hb, _⟩ := h3 hn
    refine ⟨b, o, e1, hb, fun j u hu => ?_⟩
    simp only [List.getElem?_map, Option.map_eq_some_iff] at hu
    obtain ⟨z, hz, rfl⟩ := hu
    obtain ⟨_, b', o', e2, _, hc⟩ := hl j z hz
    rw [e1] at e2
    simp at e2
    obtain ⟨rfl, rfl⟩ := e2
    exact hc
  · obtain ⟨i, hi, rfl⟩ := List.getElem_of_mem hz
    exact (hl i _ (List.getElem?_eq_getElem hi)).1
/-- A slice of pairs of numbers. -/
theorem open_prs {t e q : TypeId} {fuel : Nat} {v : Value} {x : DataW H × List MemPlace} (ht : P.underlying t = some (.slice e)) (he : P.underlying e = some (.array 2 q)) (hq : P.underlying q = some (.int .i64)) (hs : P.cellsOf e = 2) (hs1 : P.cellsOf q = 1) (h : DataW.trod enc P w base sp held fuel t [v] = some x) :
    ∃ A l c, v = .slice A l.length c ∧ l.length ≤ c ∧ c ≤ 9223372036854775807 ∧ RdP w w.heap.size A l ∧ ∀ p ∈ l, InI p.1 ∧ InI p.2 := by
  obtain ⟨A, n, c, rfl, h1, h2, h3⟩ := open_row1 ht hs (by omega) h
  have : ∃ l : List (Int × Int), l.length = n ∧ ∀ i p, l[i]? = some p → (InI p.1 ∧ InI p.2) ∧ ∃ b o, A = some ⟨b, o, none⟩ ∧ b < w.heap.size ∧ w.cell? ⟨b, o + i * 2, none⟩ = some (.int .i64 p.1) ∧ w.cell? ⟨b, o + (i * 2 + 1), none⟩ = some (.int .i64 p.2) := list_of fun i hi => by
    obtain ⟨b, o, e1, hb, hc⟩ := h3 (by omega)
    obtain ⟨cs, m, y, hl, hat, hy⟩ := hc i hi
    match cs, hl with
    | [c0, c1], _ =>
      obtain ⟨xs, m', _, _, _, hxl, hx⟩ := DataW.trod_array he hy
      match xs, hxl with
      | [x0, x1], _ =>
        have g0 := hx 0 (by omega)
        have g1 := hx 1 (by omega)
        simp [hs1] at g0 g1
        obtain ⟨y0, e0, _, w0⟩ := DataW.trod_int hq g0
        obtain ⟨y1, e1', _, w1⟩ := DataW.trod_int hq g1
        simp at e0 e1'
        subst e0 e1'
        exact ⟨(y0, y1), ⟨wf_in w0, wf_in w1⟩, b, o, e1, hb, by simpa using hat 0 _ rfl, hat 1 _ rfl⟩
  obtain ⟨l, rfl, hl⟩ := this
  refine ⟨A, l, c, rfl, h1, h2, ⟨by simp [flat2_length], fun hn => ?_⟩, fun z hz => ?_⟩
  · obtain ⟨b, o, e1, hb, _⟩ := h3 hn
    refine ⟨b, o, e1, hb, fun j u hu => ?_⟩
    obtain ⟨i, p, hp, hj⟩ := flat2_inv _ j u hu
    simp only [List.getElem?_map, Option.map_eq_some_iff] at hp
    obtain ⟨z, hz, rfl⟩ := hp
    obtain ⟨_, b', o', e2, _, hc, hc'⟩ := hl i z hz
    rw [e1] at e2
    simp at e2
    obtain ⟨rfl, rfl⟩ := e2
    rcases hj with ⟨rfl, rfl⟩ | ⟨rfl, rfl⟩
    · exact hc
    · exact hc'
  · obtain ⟨i, hi, rfl⟩ := List.getElem_of_mem hz
    exact (hl i _ (List.getElem?_eq_getElem hi)).1
/-- A slice of slices of numbers. -/
theorem open_rws {t e q : TypeId} {fuel : Nat} {v : Value} {x : DataW H × List MemPlace} (ht : P.underlying t = some (.slice e)) (he : P.underlying e = some (.slice q)) (hq : P.underlying q = some (.int .i64)) (hs : P.cellsOf e = 1) (hs1 : P.cellsOf q = 1) (h : DataW.trod enc P w base sp held fuel t [v] = some x) :
    ∃ A l c, v = .slice A l.length c ∧ l.length ≤ c ∧ c ≤ 9223372036854775807 ∧ RdR w w.heap.size A l ∧ ∀ r ∈ l, ∀ z ∈ r, InI z := by
  obtain ⟨A, n, c, rfl, h1, h2, h3⟩ := open_row1 ht hs (by omega) h
  have : ∃ l : List (List Int × Value), l.length = n ∧ ∀ i p, l[i]? = some p → (HdAt w w.heap.size p.2 p.1 ∧ ∀ z ∈ p.1, InI z) ∧ ∃ b o, A = some ⟨b, o, none⟩ ∧ b < w.heap.size ∧ w.cell? ⟨b, o + i, none⟩ = some p.2 := by
    haveI : Inhabited Value := ⟨undef⟩
    refine list_of fun i hi => ?_
    obtain ⟨b, o, e1, hb, hc⟩ := h3 (by omega)
    obtain ⟨cs, m, y, hl, hat, hy⟩ := hc i hi
    match cs, hl with
    | [c0], _ =>
      obtain ⟨r, hr, hin⟩ := open_nums he hq hs1 hy
      exact ⟨(r, c0), ⟨hr, hin⟩, b, o, e1, hb, by simpa using hat 0 _ rfl⟩
  obtain ⟨l, rfl, hl⟩ := this
  refine ⟨A, l.map (·.1), c, by simp, by simpa using h1, h2, ⟨l.map (·.2), by simp, ⟨by simp, fun hn => ?_⟩, fun i r u hr hu => ?_⟩, fun r hr => ?_⟩
  · obtain ⟨b, o, e1, hb, _⟩ := h3 (by simpa using hn)
    refine ⟨b, o, e1, hb, fun j u hu => ?_⟩
    simp only [List.getElem?_map, Option.map_eq_some_iff] at hu
    obtain ⟨z, hz, rfl⟩ := hu
    obtain ⟨_, b', o', e2, _, hc⟩ := hl j z hz
    rw [e1] at e2
    simp at e2
    obtain ⟨rfl, rfl⟩ := e2
    exact hc
  · simp only [List.getElem?_map, Option.map_eq_some_iff] at hr hu
    obtain ⟨z, hz, rfl⟩ := hr
    obtain ⟨z', hz', rfl⟩ := hu
    obtain rfl := Option.some.inj (hz.symm.trans hz')
    exact (hl i z hz).1.1
  · obtain ⟨p, hp, rfl⟩ := List.mem_map.1 hr
    obtain ⟨i, hi, rfl⟩ := List.getElem_of_mem hp
    exact (hl i _ (List.getElem?_eq_getElem hi)).1.2
/-- A slice of marks. -/
theorem open_marks {t e : TypeId} {fuel : Nat} {v : Value} {x : DataW H × List MemPlace} (ht : P.underlying t = some (.slice e)) (he : P.underlying e = some .bool) (hs : P.cellsOf e = 1) (h : DataW.trod enc P w base sp held fuel t [v] = some x) :
    ∃ r, HdB w w.heap.size v r := by
  obtain ⟨A, n, c, rfl, h1, h2, h3⟩ := open_row1 ht hs (by omega) h
  have : ∃ l : List Bool, l.length = n ∧ ∀ i z, l[i]? = some z → ∃ b o, A = some ⟨b, o, none⟩ ∧ b < w.heap.size ∧ w.cell? ⟨b, o + i, none⟩ = some (.bool z) := list_of fun i hi => by
    obtain ⟨b, o, e1, hb, hc⟩ := h3 (by omega)
    obtain ⟨cs, m, y, hl, hat, hy⟩ := hc i hi
    obtain ⟨z, rfl, _⟩ := DataW.trod_bool he hy
    exact ⟨z, b, o, e1, hb, by simpa using hat 0 _ rfl⟩
  obtain ⟨l, rfl, hl⟩ := this
  refine ⟨l, A, c, rfl, h1, h2, by simp, fun hn => ?_⟩
  obtain ⟨b, o, e1, hb, _⟩ := h3 hn
  refine ⟨b, o, e1, hb, fun j u hu => ?_⟩
  simp only [List.getElem?_map, Option.map_eq_some_iff] at hu
  obtain ⟨z, hz, rfl⟩ := hu
  obtain ⟨b', o', e2, _, hc⟩ := hl j z hz
  rw [e1] at e2
  simp at e2
  obtain ⟨rfl, rfl⟩ := e2
  exact hc
/-- A slice of slices of marks. -/
theorem open_mws {t e q : TypeId} {fuel : Nat} {v : Value} {x : DataW H × List MemPlace} (ht : P.underlying t = some (.slice e)) (he : P.underlying e = some (.slice q)) (hq : P.underlying q = some .bool) (hs : P.cellsOf e = 1) (hs1 : P.cellsOf q = 1) (h : DataW.trod enc P w base sp held fuel t [v] = some x) :
    ∃ A l c, v = .slice A l.length c ∧ l.length ≤ c ∧ c ≤ 9223372036854775807 ∧ RdQ w w.heap.size A l := by
  obtain ⟨A, n, c, rfl, h1, h2, h3⟩ := open_row1 ht hs (by omega) h
  have : ∃ l : List (List Bool × Value), l.length = n ∧ ∀ i p, l[i]? = some p → HdB w w.heap.size p.2 p.1 ∧ ∃ b o, A = some ⟨b, o, none⟩ ∧ b < w.heap.size ∧ w.cell? ⟨b, o + i, none⟩ = some p.2 := by
    haveI : Inhabited Value := ⟨undef⟩
    refine list_of fun i hi => ?_
    obtain ⟨b, o, e1, hb, hc⟩ := h3 (by omega)
    obtain ⟨cs, m, y, hl, hat, hy⟩ := hc i hi
    match cs, hl with
    | [c0], _ =>
      obtain ⟨r, hr⟩ := open_marks he hq hs1 hy
      exact ⟨(r, c0), hr, b, o, e1, hb, by simpa using hat 0 _ rfl⟩
  obtain ⟨l, rfl, hl⟩ := this
  refine ⟨A, l.map (·.1), c, by simp, by simpa using h1, h2, ⟨l.map (·.2), by simp, ⟨by simp, fun hn => ?_⟩, fun i r u hr hu => ?_⟩⟩
  · obtain ⟨b, o, e1, hb, _⟩ := h3 (by simpa using hn)
    refine ⟨b, o, e1, hb, fun j u hu => ?_⟩
    simp only [List.getElem?_map, Option.map_eq_some_iff] at hu
    obtain ⟨z, hz, rfl⟩ := hu
    obtain ⟨_, b', o', e2, _, hc⟩ := hl j z hz
    rw [e1] at e2
    simp at e2
    obtain ⟨rfl, rfl⟩ := e2
    exact hc
  · simp only [List.getElem?_map, Option.map_eq_some_iff] at hr hu
    obtain ⟨z, hz, rfl⟩ := hr
    obtain ⟨z', hz', rfl⟩ := hu
    obtain rfl := Option.some.inj (hz.symm.trans hz')
    exact (hl i z hz).1
end
/-- Two arguments that are a table, opened. -/
theorem open_ii {H : Type} {enc : TypeId × Value → H} {W : World} {base b : Nat} {sp : Nat → Bool} {held : Bool} {v : Value} {d : DataW H} {p : List MemPlace} (hv : Value.okWide Try.prog W .any base 22 v) (h : DataW.Trod enc Try.prog W b sp held 22 v d p) :
    ∃ A l c, v = .slice A l.length c ∧ l.length ≤ c ∧ c ≤ 9223372036854775807 ∧ RdR W W.heap.size A l ∧ ∀ r ∈ l, ∀ z ∈ r, InI z := by
  obtain ⟨a0, len, cap, rfl⟩ := okWide_slice Try.underlying22 hv
  obtain ⟨fuel, hf⟩ := h
  exact open_rws Try.underlying22 Try.underlying29 Try.underlying2 (by kernel_rfl) (by kernel_rfl) hf
theorem open_bb {H : Type} {enc : TypeId × Value → H} {W : World} {base b : Nat} {sp : Nat → Bool} {held : Bool} {v : Value} {d : DataW H} {p : List MemPlace} (hv : Value.okWide Try.prog W .any base 23 v) (h : DataW.Trod enc Try.prog W b sp held 23 v d p) :
    ∃ A l c, v = .slice A l.length c ∧ l.length ≤ c ∧ c ≤ 9223372036854775807 ∧ RdQ W W.heap.size A l := by
  obtain ⟨a0, len, cap, rfl⟩ := okWide_slice Try.underlying23 hv
  obtain ⟨fuel, hf⟩ := h
  exact open_mws Try.underlying23 Try.underlying43 Try.underlying4 (by kernel_rfl) (by kernel_rfl) hf
theorem open_pp {H : Type} {enc : TypeId × Value → H} {W : World} {base b : Nat} {sp : Nat → Bool} {held : Bool} {v : Value} {d : DataW H} {p : List MemPlace} (hv : Value.okWide Try.prog W .any base 36 v) (h : DataW.Trod enc Try.prog W b sp held 36 v d p) :
    ∃ A l c, v = .slice A l.length c ∧ l.length ≤ c ∧ c ≤ 9223372036854775807 ∧ RdP W W.heap.size A l ∧ ∀ p ∈ l, InI p.1 ∧ InI p.2 := by
  obtain ⟨a0, len, cap, rfl⟩ := okWide_slice Try.underlying36 hv
  obtain ⟨fuel, hf⟩ := h
  exact open_prs Try.underlying36 Try.underlying37 Try.underlying2 (by kernel_rfl) (by kernel_rfl) hf
end Go.Proofs.Ytamfhommmogknaa
