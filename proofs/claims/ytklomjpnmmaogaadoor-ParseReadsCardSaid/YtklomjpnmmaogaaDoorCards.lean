/-
  DERIVED. GIVEN WITH THE SEED: THE CARDS: each row of YtklomjpnmmaogaaDoorRows.lean that lists a variable, with what it lists TIED to the program's text (the seventh form; the later family's looks); each row that meets fmt, with fmt's text TOLD by the authors' own Lean function (tested against real Go, not proved from fmt's source: count such statements apart). THE CARD IS WHAT COUNTS. Prove the row's statement (the work); the ties are given (YtklomjpnmmaogaaDoorTie.lean); close each card by the builder's one call (the guide's Derived/Test/ToyasCard.lean, 'card_holds'). Laid BY PROGRAM, IN A SANDBOX (cutbox-door.mjs). By AI agents, Wed Nov 11 2026. No macro, syntax, notation, axiom, sorry.
-/
import Derived.Test.YtklomjpnmmaogaaDoorRows
import GoSem.ClaimSeven
namespace Go.Proofs.YtklomjpnmmaogaaDoor
namespace Rows

/-- THE TIED CARD OF 'secateurlaw10.ParseReads'. -/
def parseReadsCard : Claim7 := { stood := { row := parseReadsRow, standIns := [], harness := (true, "7b6878bf3925fd1023a613bafec22dbb14c2b21b1e4ddc4f12765a35be502656"), looks := true }, kinds := [], alts := [], laidByText := true, laidKinds := [.data, .data, .data, .data, .sentinel, .sentinel], laidTests := true, laidLooks := .later }
def ParseReadsCardSaid : Prop := Claim7.holds Tryd.pinned (.plain (OpenSpec.ofChange parseReadsSpec)) parseReadsCard

/-- THE TIED CARD OF 'secateurlaw11.ShowPrints'. -/
def showPrintsCard : Claim7 := { stood := { row := showPrintsRow, standIns := [], harness := (true, "7b6878bf3925fd1023a613bafec22dbb14c2b21b1e4ddc4f12765a35be502656"), looks := true }, kinds := [], alts := [], laidByText := true, laidKinds := [.data, .data, .data, .data, .sentinel, .sentinel], laidTests := true, laidLooks := .later }
def ShowPrintsCardSaid : Prop := Claim7.holds Tryd.pinned (.plain (OpenSpec.ofChange showPrintsSpec)) showPrintsCard

/-- THE TIED CARD OF 'secateurlaw11.ShowBack'. -/
def showBackCard : Claim7 := { stood := { row := showBackRow, standIns := [], harness := (true, "7b6878bf3925fd1023a613bafec22dbb14c2b21b1e4ddc4f12765a35be502656"), looks := true }, kinds := [], alts := [], laidByText := true, laidKinds := [.data, .data, .data, .data, .sentinel, .sentinel], laidTests := true, laidLooks := .later }
def ShowBackCardSaid : Prop := Claim7.holds Tryd.pinned (.plain (OpenSpec.ofChange showBackSpec)) showBackCard

/-- THE TIED CARD OF 'secateurlaw10.ParseGood'. -/
def parseGoodCard : Claim7 := { stood := { row := parseGoodRow, standIns := [], harness := (true, "7b6878bf3925fd1023a613bafec22dbb14c2b21b1e4ddc4f12765a35be502656"), looks := true }, kinds := [], alts := [], laidByText := true, laidKinds := [.data, .data, .data, .data, .sentinel, .sentinel], laidTests := true, laidLooks := .later }
def ParseGoodCardSaid : Prop := Claim7.holds Tryd.pinned (.plain (OpenSpec.ofChange parseGoodSpec)) parseGoodCard

/-- THE SECOND FORM's CARD OF 'secateurlaw10.ParseReads'. -/
def parseReadsUptoCard : Claim7 := { stood := { row := parseReadsUptoRow, standIns := [], harness := (true, "7b6878bf3925fd1023a613bafec22dbb14c2b21b1e4ddc4f12765a35be502656"), looks := true }, kinds := [], alts := [], laidByText := true, laidKinds := [.data, .data, .data, .data, .sentinel, .sentinel], laidTests := true, laidLooks := .later }
def ParseReadsUptoCardSaid : Prop := Claim7.holds Tryd.pinned (.plain (OpenSpec.upto parseReadsSpec)) parseReadsUptoCard

/-- THE SECOND FORM's CARD OF 'secateurlaw11.ShowPrints'. -/
def showPrintsUptoCard : Claim7 := { stood := { row := showPrintsUptoRow, standIns := [], harness := (true, "7b6878bf3925fd1023a613bafec22dbb14c2b21b1e4ddc4f12765a35be502656"), looks := true }, kinds := [], alts := [], laidByText := true, laidKinds := [.data, .data, .data, .data, .sentinel, .sentinel], laidTests := true, laidLooks := .later }
def ShowPrintsUptoCardSaid : Prop := Claim7.holds Tryd.pinned (.plain (OpenSpec.upto showPrintsSpec)) showPrintsUptoCard

/-- THE SECOND FORM's CARD OF 'secateurlaw11.ShowBack'. -/
def showBackUptoCard : Claim7 := { stood := { row := showBackUptoRow, standIns := [], harness := (true, "7b6878bf3925fd1023a613bafec22dbb14c2b21b1e4ddc4f12765a35be502656"), looks := true }, kinds := [], alts := [], laidByText := true, laidKinds := [.data, .data, .data, .data, .sentinel, .sentinel], laidTests := true, laidLooks := .later }
def ShowBackUptoCardSaid : Prop := Claim7.holds Tryd.pinned (.plain (OpenSpec.upto showBackSpec)) showBackUptoCard

/-- THE SECOND FORM's CARD OF 'secateurlaw10.ParseGood'. -/
def parseGoodUptoCard : Claim7 := { stood := { row := parseGoodUptoRow, standIns := [], harness := (true, "7b6878bf3925fd1023a613bafec22dbb14c2b21b1e4ddc4f12765a35be502656"), looks := true }, kinds := [], alts := [], laidByText := true, laidKinds := [.data, .data, .data, .data, .sentinel, .sentinel], laidTests := true, laidLooks := .later }
def ParseGoodUptoCardSaid : Prop := Claim7.holds Tryd.pinned (.plain (OpenSpec.upto parseGoodSpec)) parseGoodUptoCard
end Rows
end Go.Proofs.YtklomjpnmmaogaaDoor
