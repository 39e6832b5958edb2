/-
  DERIVED. GIVEN WITH THE SEED: THE CARDS: each row of YteddbdmddgmicaaDoorRows.lean that lists a variable, with what it lists TIED to the program's text (the seventh form; the later family's looks); each row that meets fmt, with fmt's text TOLD by the authors' own Lean function (tested against real Go, not proved from fmt's source: count such statements apart). THE CARD IS WHAT COUNTS. Prove the row's statement (the work); the ties are given (YteddbdmddgmicaaDoorTie.lean); close each card by the builder's one call (the guide's Derived/Test/ToyasCard.lean, 'card_holds'). Laid BY PROGRAM, IN A SANDBOX (cutbox-door.mjs). By AI agents, Wed Nov 11 2026. No macro, syntax, notation, axiom, sorry.
-/
import Derived.Test.YteddbdmddgmicaaDoorRows
import GoSem.ClaimSeven
namespace Go.Proofs.YteddbdmddgmicaaDoor
namespace Rows

/-- THE TIED CARD OF 'secateurlaw09.InstChecks'. -/
def instChecksCard : Claim7 := { stood := { row := instChecksRow, standIns := [], harness := (true, "add31260b12c2fc9f6851c33d4930ac35ed8b4434aebff1b882acb00e914bccc"), looks := false }, kinds := [], alts := [], laidByText := true, laidKinds := [.data], laidTests := true, laidLooks := .later }
def InstChecksCardSaid : Prop := Claim7.holds Tryd.pinned (.plain (OpenSpec.ofChange instChecksSpec)) instChecksCard

/-- THE TIED CARD OF 'secateurlaw09.InstEqual'. -/
def instEqualCard : Claim7 := { stood := { row := instEqualRow, standIns := [], harness := (true, "add31260b12c2fc9f6851c33d4930ac35ed8b4434aebff1b882acb00e914bccc"), looks := false }, kinds := [], alts := [], laidByText := true, laidKinds := [.data], laidTests := true, laidLooks := .later }
def InstEqualCardSaid : Prop := Claim7.holds Tryd.pinned (.plain (OpenSpec.ofChange instEqualSpec)) instEqualCard

/-- THE TIED CARD OF 'secateurlaw09.InstApart'. -/
def instApartCard : Claim7 := { stood := { row := instApartRow, standIns := [], harness := (true, "add31260b12c2fc9f6851c33d4930ac35ed8b4434aebff1b882acb00e914bccc"), looks := false }, kinds := [], alts := [], laidByText := true, laidKinds := [.data], laidTests := true, laidLooks := .later }
def InstApartCardSaid : Prop := Claim7.holds Tryd.pinned (.plain (OpenSpec.ofChange instApartSpec)) instApartCard

/-- THE TIED CARD OF 'secateurlaw09.InstTame'. -/
def instTameCard : Claim7 := { stood := { row := instTameRow, standIns := [], harness := (true, "add31260b12c2fc9f6851c33d4930ac35ed8b4434aebff1b882acb00e914bccc"), looks := false }, kinds := [], alts := [], laidByText := true, laidKinds := [.data], laidTests := true, laidLooks := .later }
def InstTameCardSaid : Prop := Claim7.holds Tryd.pinned (.plain (OpenSpec.ofChange instTameSpec)) instTameCard

/-- THE SECOND FORM's CARD OF 'secateurlaw09.InstChecks'. -/
def instChecksUptoCard : Claim7 := { stood := { row := instChecksUptoRow, standIns := [], harness := (true, "add31260b12c2fc9f6851c33d4930ac35ed8b4434aebff1b882acb00e914bccc"), looks := false }, kinds := [], alts := [], laidByText := true, laidKinds := [.data], laidTests := true, laidLooks := .later }
def InstChecksUptoCardSaid : Prop := Claim7.holds Tryd.pinned (.plain (OpenSpec.upto instChecksSpec)) instChecksUptoCard

/-- THE SECOND FORM's CARD OF 'secateurlaw09.InstEqual'. -/
def instEqualUptoCard : Claim7 := { stood := { row := instEqualUptoRow, standIns := [], harness := (true, "add31260b12c2fc9f6851c33d4930ac35ed8b4434aebff1b882acb00e914bccc"), looks := false }, kinds := [], alts := [], laidByText := true, laidKinds := [.data], laidTests := true, laidLooks := .later }
def InstEqualUptoCardSaid : Prop := Claim7.holds Tryd.pinned (.plain (OpenSpec.upto instEqualSpec)) instEqualUptoCard

/-- THE SECOND FORM's CARD OF 'secateurlaw09.InstApart'. -/
def instApartUptoCard : Claim7 := { stood := { row := instApartUptoRow, standIns := [], harness := (true, "add31260b12c2fc9f6851c33d4930ac35ed8b4434aebff1b882acb00e914bccc"), looks := false }, kinds := [], alts := [], laidByText := true, laidKinds := [.data], laidTests := true, laidLooks := .later }
def InstApartUptoCardSaid : Prop := Claim7.holds Tryd.pinned (.plain (OpenSpec.upto instApartSpec)) instApartUptoCard

/-- THE SECOND FORM's CARD OF 'secateurlaw09.InstTame'. -/
def instTameUptoCard : Claim7 := { stood := { row := instTameUptoRow, standIns := [], harness := (true, "add31260b12c2fc9f6851c33d4930ac35ed8b4434aebff1b882acb00e914bccc"), looks := false }, kinds := [], alts := [], laidByText := true, laidKinds := [.data], laidTests := true, laidLooks := .later }
def InstTameUptoCardSaid : Prop := Claim7.holds Tryd.pinned (.plain (OpenSpec.upto instTameSpec)) instTameUptoCard
end Rows
end Go.Proofs.YteddbdmddgmicaaDoor
