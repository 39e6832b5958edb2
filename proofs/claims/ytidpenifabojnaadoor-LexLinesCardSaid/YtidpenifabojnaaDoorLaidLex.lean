/- What the laid variables give the walks of texts; a world that meets the condition. -/
import Derived.Test.YtidpenifabojnaaDoorTie
import Derived.Test.YtidpenifabojnaaDoorCards
import Derived.Test.YtidpenifabojnaaDoorLW
import Derived.ProofKit
import Derived.LaidMore
import Derived.LaidLaws
import Derived.Stop.LaidErr
import Derived.Lib.LaidTab
import Derived.Stop.Joined
namespace Go.Proofs.YtidpenifabojnaaDoor
open Go Go.ChangeShapes Go.WideShapes Go.ChangeAt Go.RowKit
set_option linter.unusedVariables false
set_option linter.unusedSimpArgs false
set_option maxRecDepth 100000

abbrev laid5 : List (String × DataW Unit) := [("math/bits.deBruijn32tab", Rows.laid_math_bits_deBruijn32tab), ("math/bits.deBruijn64tab", Rows.laid_math_bits_deBruijn64tab), ("internal/strconv.uint64pow10", Rows.laid_internal_strconv_uint64pow10), ("strconv.ErrRange", Rows.laid_strconv_ErrRange), ("strconv.ErrSyntax", Rows.laid_strconv_ErrSyntax)]
theorem star : ("*errors.errorString" : String) = "*" ++ "errors.errorString" := by decide
theorem row_err (u : TypeId) (h : Tryd.prog.typeName? 3 u = some "*errors.errorString") : u = 112 :=
  typeName_ptr_named (nm := "errors.errorString") (by rw [← star]; kernel_rfl) (by kernel_rfl) (by decide) u (by rw [← star]; exact h)
theorem var_lt {P : Program} {W : World} {n : String} {g : Nat} {cs : Array Value} (hg : P.globalNamed n = some g) (h : W.var? P n = some cs) : g < W.heap.size := by
  unfold World.var? at h
  rw [hg] at h
  by_cases hl : g < W.heap.size
  · exact hl
  · simp [Array.getElem?_eq_none (Nat.le_of_not_lt hl)] at h
theorem of_laid {W : World} (h : laidMetH Tryd.prog laid5 W) : LexW W := by
  rw [MakeChecks.laidMetH_plain _ _ _ (by kernel_rfl)] at h
  have h3 := h.tail.tail
  obtain ⟨a1, _, e1, _⟩ := laid_sentinel (g := 4) (tp := 112) (te := 114) (ti := 67) (ts := 9) h3.tail (by kernel_rfl) (by kernel_rfl) Tryd.underlying67 row_err Tryd.underlying112 Tryd.underlying114 rfl rfl Tryd.underlying9 (by kernel_rfl) (by kernel_rfl)
  obtain ⟨a2, _, e2, _⟩ := laid_sentinel (g := 3) (tp := 112) (te := 114) (ti := 67) (ts := 9) h3.tail.tail (by kernel_rfl) (by kernel_rfl) Tryd.underlying67 row_err Tryd.underlying112 Tryd.underlying114 rfl rfl Tryd.underlying9 (by kernel_rfl) (by kernel_rfl)
  exact ⟨⟨_, _, e2⟩, ⟨_, _, e1⟩, var_lt (by kernel_rfl) e2, var_lt (by kernel_rfl) e1⟩
theorem own : ownKnob Tryd.prog.godebug = none := by kernel_rfl
/-- The door's own heap meets the condition. -/
theorem door_met (os : Os) (args : Array Value) : laidMetH Tryd.prog laid5 ((World.doorLaid Tryd.prog 400 os).forCall (fun _ _ => 0) ⟨#[], args, []⟩).memory :=
  laidMetH_of_parts3 (fuel := 8) (laidMet_of_run' 8 (by kernel_rfl) (by kernel_rfl)) (by kernel_rfl) (by kernel_rfl)
end Go.Proofs.YtidpenifabojnaaDoor
