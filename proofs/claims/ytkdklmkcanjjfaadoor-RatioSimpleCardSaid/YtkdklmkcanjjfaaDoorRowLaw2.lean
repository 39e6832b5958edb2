/- Arguments opened by their types: arrays of two numbers of 32 and of 16 bits. -/
import Derived.Test.YtkdklmkcanjjfaaDoorRowLaw
namespace Go.Proofs.YtkdklmkcanjjfaaDoor
open Go Go.RowKit Go.WideShapes Go.ChangeShapes Go.ChangeAt
set_option linter.unusedVariables false
set_option linter.unusedSimpArgs false
set_option maxRecDepth 100000
section
variable {H : Type} {enc : TypeId × Value → H} {P : Program}
theorem open_arr2_32 {W : World} {base b : Nat} {sp : Nat → Bool} {held : Bool} {t e : TypeId} {v : Value} {d : DataW H} {p : List MemPlace} (ht : P.underlying t = some (.array 2 e)) (he : P.underlying e = some (.int .i32)) (hc : P.cellsOf e = 1) (hct : P.cellsOf t = 2)
    (hv : Value.okWide P W .any base t v) (h : DataW.Trod enc P W b sp held t v d p) : ∃ a0 a1, v = .agg #[.int .i32 a0, .int .i32 a1] ∧ (-2147483648 ≤ a0 ∧ a0 ≤ 2147483647) ∧ (-2147483648 ≤ a1 ∧ a1 ≤ 2147483647) := by
  obtain ⟨cs, rfl, hsz, _⟩ : ∃ cs, v = .agg cs ∧ cs.size = P.cellsOf t ∧ Row.okWide P W .any base t cs := by
    simpa [Value.okWide, ht] using hv
  rw [hct] at hsz
  obtain ⟨l⟩ := cs
  match l, hsz with
  | [c0, c1], _ =>
    obtain ⟨fuel, hf⟩ := h
    obtain ⟨xs, m, _, _, _, hl, hx⟩ := DataW.trod_array ht hf
    match xs, hl with
    | [x0, x1], _ =>
      have h0 := hx 0 (by omega)
      have h1 := hx 1 (by omega)
      simp [hc, Value.cells] at h0 h1
      obtain ⟨y0, e0, _, w0⟩ := DataW.trod_int he h0
      obtain ⟨y1, e1, _, w1⟩ := DataW.trod_int he h1
      simp at e0 e1
      subst e0 e1
      have b0 := bounds_i32 w0
      have b1 := bounds_i32 w1
      exact ⟨y0, y1, rfl, ⟨by omega, by omega⟩, ⟨by omega, by omega⟩⟩
theorem open_arr2_16 {W : World} {base b : Nat} {sp : Nat → Bool} {held : Bool} {t e : TypeId} {v : Value} {d : DataW H} {p : List MemPlace} (ht : P.underlying t = some (.array 2 e)) (he : P.underlying e = some (.int .i16)) (hc : P.cellsOf e = 1) (hct : P.cellsOf t = 2)
    (hv : Value.okWide P W .any base t v) (h : DataW.Trod enc P W b sp held t v d p) : ∃ a0 a1, v = .agg #[.int .i16 a0, .int .i16 a1] ∧ (-32768 ≤ a0 ∧ a0 ≤ 32767) ∧ (-32768 ≤ a1 ∧ a1 ≤ 32767) := by
  obtain ⟨cs, rfl, hsz, _⟩ : ∃ cs, v = .agg cs ∧ cs.size = P.cellsOf t ∧ Row.okWide P W .any base t cs := by
    simpa [Value.okWide, ht] using hv
  rw [hct] at hsz
  obtain ⟨l⟩ := cs
  match l, hsz with
  | [c0, c1], _ =>
    obtain ⟨fuel, hf⟩ := h
    obtain ⟨xs, m, _, _, _, hl, hx⟩ := DataW.trod_array ht hf
    match xs, hl with
    | [x0, x1], _ =>
      have h0 := hx 0 (by omega)
      have h1 := hx 1 (by omega)
      simp [hc, Value.cells] at h0 h1
      obtain ⟨y0, e0, _, w0⟩ := DataW.trod_int he h0
      obtain ⟨y1, e1, _, w1⟩ := DataW.trod_int he h1
      simp at e0 e1
      subst e0 e1
      have b0 := bounds_i16 w0
      have b1 := bounds_i16 w1
      exact ⟨y0, y1, rfl, ⟨by omega, by omega⟩, ⟨by omega, by omega⟩⟩
end
end Go.Proofs.YtkdklmkcanjjfaaDoor
