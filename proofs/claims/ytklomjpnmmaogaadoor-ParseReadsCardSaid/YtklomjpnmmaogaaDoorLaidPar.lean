/- What the laid variables give the walks of the parser; a world that meets the condition. -/
import Derived.Test.YtklomjpnmmaogaaDoorTie
import Derived.Test.YtklomjpnmmaogaaDoorCards
import Derived.Test.YtklomjpnmmaogaaDoorLW
import Derived.Test.YtklomjpnmmaogaaDoorIN
import Derived.OpenShut
import Derived.ProofKit
import Derived.LaidMore
import Derived.LaidLaws
import Derived.Stop.LaidErr
import Derived.Lib.LaidTab
import Derived.Stop.Joined
namespace Go.Proofs.YtklomjpnmmaogaaDoor
open Go Go.ChangeShapes Go.WideShapes Go.ChangeAt Go.RowKit
set_option linter.unusedVariables false
set_option linter.unusedSimpArgs false
set_option maxRecDepth 100000

abbrev laid6 : List (String × DataW Unit) := [("math/bits.deBruijn32tab", Rows.laid_math_bits_deBruijn32tab), ("math/bits.deBruijn64tab", Rows.laid_math_bits_deBruijn64tab), ("internal/strconv.uint64pow10", Rows.laid_internal_strconv_uint64pow10), ("secateur/inst.names", Rows.laid_secateur_inst_names), ("strconv.ErrRange", Rows.laid_strconv_ErrRange), ("strconv.ErrSyntax", Rows.laid_strconv_ErrSyntax)]
theorem star : ("*errors.errorString" : String) = "*" ++ "errors.errorString" := by decide
theorem row_err (u : TypeId) (h : Tryd.prog.typeName? 3 u = some "*errors.errorString") : u = 189 :=
  typeName_ptr_named (nm := "errors.errorString") (by rw [← star]; kernel_rfl) (by kernel_rfl) (by decide) u (by rw [← star]; exact h)
theorem var_lt {P : Program} {W : World} {n : String} {g : Nat} {cs : Array Value} (hg : P.globalNamed n = some g) (h : W.var? P n = some cs) : g < W.heap.size := by
  unfold World.var? at h
  rw [hg] at h
  by_cases hl : g < W.heap.size
  · exact hl
  · simp [Array.getElem?_eq_none (Nat.le_of_not_lt hl)] at h
section
variable {H : Type} {enc : TypeId × Value → H} {P : Program} {w : World} {base : Nat} {sp : Nat → Bool} {held : Bool}
theorem bytes_lit {s : ByteArray} {l : List UInt8} (h : s.data.toList = l) : s = ⟨l.toArray⟩ := by
  apply ByteArray.ext
  rw [← h]
/-- An array of four words that reads as these holds these. -/
theorem cells_of_words {t e : TypeId} {fuel : Nat} {cs : List Value} {l0 l1 l2 l3 : List UInt8} {p : List MemPlace} (ht : P.underlying t = some (.array 4 e)) (he : P.underlying e = some .string) (hc : P.cellsOf e = 1) (hct : P.cellsOf t = 4)
    (h : DataW.trod enc P w base sp held fuel t cs = some (.agg [.lit (.string l0), .lit (.string l1), .lit (.string l2), .lit (.string l3)], p)) : cs = [.string ⟨l0.toArray⟩, .string ⟨l1.toArray⟩, .string ⟨l2.toArray⟩, .string ⟨l3.toArray⟩] := by
  obtain ⟨xs, m, _, hx, hl, hxl, hi⟩ := DataW.trod_array ht h
  rw [hct] at hl
  match cs, hl, xs, hxl with
  | [c0, c1, c2, c3], _, [x0, x1, x2, x3], _ =>
    have g0 := hi 0 (by omega)
    have g1 := hi 1 (by omega)
    have g2 := hi 2 (by omega)
    have g3 := hi 3 (by omega)
    simp [hc] at g0 g1 g2 g3
    obtain ⟨s0, e0, f0, _⟩ := DataW.trod_string he g0
    obtain ⟨s1, e1, f1, _⟩ := DataW.trod_string he g1
    obtain ⟨s2, e2, f2, _⟩ := DataW.trod_string he g2
    obtain ⟨s3, e3, f3, _⟩ := DataW.trod_string he g3
    subst f0 f1 f2 f3
    simp at hx e0 e1 e2 e3
    obtain ⟨⟨a0, a1, a2, a3⟩, _⟩ := hx
    rw [e0, e1, e2, e3, bytes_lit a0.symm, bytes_lit a1.symm, bytes_lit a2.symm, bytes_lit a3.symm]
end
theorem of_laid {W : World} (h : laidMetH Tryd.prog laid6 W) : LexW W ∧ NamesW W := by
  rw [MakeChecks.laidMetH_plain _ _ _ (by kernel_rfl)] at h
  have h3 := h.tail.tail.tail
  obtain ⟨a1, _, e1, _⟩ := laid_sentinel (g := 4) (tp := 189) (te := 191) (ti := 141) (ts := 9) h3.tail (by kernel_rfl) (by kernel_rfl) Tryd.underlying141 row_err Tryd.underlying189 Tryd.underlying191 rfl rfl Tryd.underlying9 (by kernel_rfl) (by kernel_rfl)
  obtain ⟨a2, _, e2, _⟩ := laid_sentinel (g := 3) (tp := 189) (te := 191) (ti := 141) (ts := 9) h3.tail.tail (by kernel_rfl) (by kernel_rfl) Tryd.underlying141 row_err Tryd.underlying189 Tryd.underlying191 rfl rfl Tryd.underlying9 (by kernel_rfl) (by kernel_rfl)
  refine ⟨⟨⟨_, _, e2⟩, ⟨_, _, e1⟩, var_lt (by kernel_rfl) e2, var_lt (by kernel_rfl) e1⟩, ?_⟩
  replace h := h.tail.tail.tail
  obtain ⟨ps, ⟨g', t', cs, fuel, p, q, hg', ht', hvar, hd, _, _⟩, _⟩ := h
  obtain rfl := Option.some.inj ((show Tryd.prog.globalNamed "secateur/inst.names" = some 1 by kernel_rfl).symm.trans hg')
  obtain rfl := Option.some.inj ((show (Tryd.prog.globals[1]?).map (·.type) = some 145 by kernel_rfl).symm.trans ht')
  have := cells_of_words Tryd.underlying145 Tryd.underlying9 (by kernel_rfl) (by kernel_rfl) hd
  have hcs : cs = #[.string ⟨#[107, 110, 97, 112, 115, 97, 99, 107]⟩, .string ⟨#[97, 115, 115, 105, 103, 110, 109, 101, 110, 116]⟩, .string ⟨#[116, 115, 112]⟩, .string ⟨#[99, 111, 118, 101, 114]⟩] := by
    apply Array.ext'
    exact this
  subst hcs
  refine ⟨hvar, ?_⟩
  unfold World.var? at hvar
  rw [hg'] at hvar
  by_cases hl : 1 < W.heap.size
  · exact hl
  · simp [Array.getElem?_eq_none (Nat.le_of_not_lt hl)] at hvar
theorem own : ownKnob Tryd.prog.godebug = none := by kernel_rfl
/-- The door's own heap meets the condition. -/
theorem door_met (os : Os) (args : Array Value) : laidMetH Tryd.prog laid6 ((World.doorLaid Tryd.prog 400 os).forCall (fun _ _ => 0) ⟨#[], args, []⟩).memory :=
  laidMetH_of_parts3 (fuel := 8) (laidMet_of_run' 8 (by kernel_rfl) (by kernel_rfl)) (by kernel_rfl) (by kernel_rfl)
end Go.Proofs.YtklomjpnmmaogaaDoor
