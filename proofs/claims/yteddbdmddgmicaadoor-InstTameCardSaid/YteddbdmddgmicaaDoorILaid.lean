/- What the laid variable gives the walks of instances; a world that meets the condition. -/
import Derived.Test.YteddbdmddgmicaaDoorTie
import Derived.Test.YteddbdmddgmicaaDoorCards
import Derived.Test.YteddbdmddgmicaaDoorIN
import Derived.OpenShut
import Derived.ProofKit
import Derived.LaidMore
import Derived.LaidLaws
namespace Go.Proofs.YteddbdmddgmicaaDoor
open Go Go.ChangeShapes Go.WideShapes Go.ChangeAt Go.RowKit
set_option linter.unusedVariables false
set_option linter.unusedSimpArgs false
set_option maxRecDepth 100000

abbrev laid1 : List (String × DataW Unit) := [("secateur/inst.names", Rows.laid_secateur_inst_names)]
section
variable {H : Type} {enc : TypeId × Value → H} {P : Program} {w : World} {base : Nat} {sp : Nat → Bool} {held : Bool}
theorem bytes_lit {s : ByteArray} {l : List UInt8} (h : s.data.toList = l) : s = ⟨l.toArray⟩ := by
  apply ByteArray.ext
  rw [← h]
/-- An array of four words that reads as these holds these. -/
theorem cells_of_words {t e : TypeId} {fuel : Nat} {cs : List Value} {l0 l1 l2 l3 : List UInt8} {p : List MemPlace} (ht : P.underlying t = some (.array 4 e)) (he : P.underlying e = some .string) (hc : P.cellsOf e = 1) (hct : P.cellsOf t = 4)
    (h : DataW.trod enc P w base sp held fuel t cs = some (.agg [.lit (.string l0), .lit (.string l1), .lit (.string l2), .lit (.string l3)], p)) : cs = [.string ⟨l0.toArray⟩, .string ⟨l1.toArray⟩, .string ⟨l2.toArray⟩, .string ⟨l3.toArray⟩] := by
  obtain ⟨xs, m, _, hx, hl, hxl, hi⟩ := DataW.trod_array ht h
  rw [hct] at hl
  match cs, hl, xs, hxl with
  | [c0, c1, c2, c3], _, [x0, x1, x2, x3], _ =>
    have g0 := hi 0 (by omega)
    have g1 := hi 1 (by omega)
    have g2 := hi 2 (by omega)
    have g3 := hi 3 (by omega)
    simp [hc] at g0 g1 g2 g3
    obtain ⟨s0, e0, f0, _⟩ := DataW.trod_string he g0
    obtain ⟨s1, e1, f1, _⟩ := DataW.trod_string he g1
    obtain ⟨s2, e2, f2, _⟩ := DataW.trod_string he g2
    obtain ⟨s3, e3, f3, _⟩ := DataW.trod_string he g3
    subst f0 f1 f2 f3
    simp at hx e0 e1 e2 e3
    obtain ⟨⟨a0, a1, a2, a3⟩, _⟩ := hx
    rw [e0, e1, e2, e3, bytes_lit a0.symm, bytes_lit a1.symm, bytes_lit a2.symm, bytes_lit a3.symm]
end
theorem of_laid {W : World} (h : laidMetH Tryd.prog laid1 W) : NamesW W := by
  rw [MakeChecks.laidMetH_plain _ _ _ (by kernel_rfl)] at h
  obtain ⟨ps, ⟨g', t', cs, fuel, p, q, hg', ht', hvar, hd, _, _⟩, _⟩ := h
  obtain rfl := Option.some.inj ((show Tryd.prog.globalNamed "secateur/inst.names" = some 0 by kernel_rfl).symm.trans hg')
  obtain rfl := Option.some.inj ((show (Tryd.prog.globals[0]?).map (·.type) = some 64 by kernel_rfl).symm.trans ht')
  have := cells_of_words Tryd.underlying64 Tryd.underlying9 (by kernel_rfl) (by kernel_rfl) hd
  have hcs : cs = #[.string ⟨#[107, 110, 97, 112, 115, 97, 99, 107]⟩, .string ⟨#[97, 115, 115, 105, 103, 110, 109, 101, 110, 116]⟩, .string ⟨#[116, 115, 112]⟩, .string ⟨#[99, 111, 118, 101, 114]⟩] := by
    apply Array.ext'
    exact this
  subst hcs
  refine ⟨hvar, ?_⟩
  unfold World.var? at hvar
  rw [hg'] at hvar
  by_cases hl : 0 < W.heap.size
  · exact hl
  · simp [Array.getElem?_eq_none (Nat.le_of_not_lt hl)] at hvar
theorem own : ownKnob Tryd.prog.godebug = none := by kernel_rfl
/-- The door's own heap meets the condition. -/
theorem door_met (os : Os) (args : Array Value) : laidMetH Tryd.prog laid1 ((World.doorLaid Tryd.prog 400 os).forCall (fun _ _ => 0) ⟨#[], args, []⟩).memory :=
  laidMetH_of_parts3 (fuel := 8) (laidMet_of_run' 8 (by kernel_rfl) (by kernel_rfl)) (by kernel_rfl) (by kernel_rfl)
end Go.Proofs.YteddbdmddgmicaaDoor
