/-
  DERIVED. GIVEN WITH THE SEED: THE CARDS: each row of YtkdklmkcanjjfaaDoorRows.lean that lists a variable, with what it lists TIED to the program's text (the seventh form; the later family's looks); each row that meets fmt, with fmt's text TOLD by the authors' own Lean function (tested against real Go, not proved from fmt's source: count such statements apart). THE CARD IS WHAT COUNTS. Prove the row's statement (the work); the ties are given (YtkdklmkcanjjfaaDoorTie.lean); close each card by the builder's one call (the guide's Derived/Test/ToyasCard.lean, 'card_holds'). Laid BY PROGRAM, IN A SANDBOX (cutbox-door.mjs). By AI agents, Wed Nov 11 2026. No macro, syntax, notation, axiom, sorry.
-/
import Derived.Test.YtkdklmkcanjjfaaDoorRows
import GoSem.ClaimSeven
namespace Go.Proofs.YtkdklmkcanjjfaaDoor
namespace Rows

/-- THE TIED CARD OF 'secateurlaw02.RatioMakes'. -/
def ratioMakesCard : Claim7 := { stood := { row := ratioMakesRow, standIns := [], harness := (true, "5076ce1cac7690f75370e4cd964e33f6bb0e556d15f6f249107b6c38e8a7f99d"), looks := true }, kinds := [], alts := [], laidByText := true, laidKinds := [.data, .data, .data, .sentinel, .sentinel], laidTests := true, laidLooks := .later }
def RatioMakesCardSaid : Prop := Claim7.holds Tryd.pinned (.plain (OpenSpec.ofChange ratioMakesSpec)) ratioMakesCard

/-- THE TIED CARD OF 'secateurlaw02.RatioSigns'. -/
def ratioSignsCard : Claim7 := { stood := { row := ratioSignsRow, standIns := [], harness := (true, "5076ce1cac7690f75370e4cd964e33f6bb0e556d15f6f249107b6c38e8a7f99d"), looks := true }, kinds := [], alts := [], laidByText := true, laidKinds := [.data, .data, .data, .sentinel, .sentinel], laidTests := true, laidLooks := .later }
def RatioSignsCardSaid : Prop := Claim7.holds Tryd.pinned (.plain (OpenSpec.ofChange ratioSignsSpec)) ratioSignsCard

/-- THE TIED CARD OF 'secateurlaw02.RatioOrders'. -/
def ratioOrdersCard : Claim7 := { stood := { row := ratioOrdersRow, standIns := [], harness := (true, "5076ce1cac7690f75370e4cd964e33f6bb0e556d15f6f249107b6c38e8a7f99d"), looks := true }, kinds := [], alts := [], laidByText := true, laidKinds := [.data, .data, .data, .sentinel, .sentinel], laidTests := true, laidLooks := .later }
def RatioOrdersCardSaid : Prop := Claim7.holds Tryd.pinned (.plain (OpenSpec.ofChange ratioOrdersSpec)) ratioOrdersCard

/-- THE TIED CARD OF 'secateurlaw02.RatioSums'. -/
def ratioSumsCard : Claim7 := { stood := { row := ratioSumsRow, standIns := [], harness := (true, "5076ce1cac7690f75370e4cd964e33f6bb0e556d15f6f249107b6c38e8a7f99d"), looks := true }, kinds := [], alts := [], laidByText := true, laidKinds := [.data, .data, .data, .sentinel, .sentinel], laidTests := true, laidLooks := .later }
def RatioSumsCardSaid : Prop := Claim7.holds Tryd.pinned (.plain (OpenSpec.ofChange ratioSumsSpec)) ratioSumsCard

/-- THE TIED CARD OF 'secateurlaw02.RatioBack'. -/
def ratioBackCard : Claim7 := { stood := { row := ratioBackRow, standIns := [], harness := (true, "5076ce1cac7690f75370e4cd964e33f6bb0e556d15f6f249107b6c38e8a7f99d"), looks := true }, kinds := [], alts := [], laidByText := true, laidKinds := [.data, .data, .data, .sentinel, .sentinel], laidTests := true, laidLooks := .later }
def RatioBackCardSaid : Prop := Claim7.holds Tryd.pinned (.plain (OpenSpec.ofChange ratioBackSpec)) ratioBackCard

/-- THE TIED CARD OF 'secateurlaw02.RatioParts'. -/
def ratioPartsCard : Claim7 := { stood := { row := ratioPartsRow, standIns := [], harness := (true, "5076ce1cac7690f75370e4cd964e33f6bb0e556d15f6f249107b6c38e8a7f99d"), looks := true }, kinds := [], alts := [], laidByText := true, laidKinds := [.data, .data, .data, .sentinel, .sentinel], laidTests := true, laidLooks := .later }
def RatioPartsCardSaid : Prop := Claim7.holds Tryd.pinned (.plain (OpenSpec.ofChange ratioPartsSpec)) ratioPartsCard

/-- THE TIED CARD OF 'secateurlaw02.RatioSimple'. -/
def ratioSimpleCard : Claim7 := { stood := { row := ratioSimpleRow, standIns := [], harness := (true, "5076ce1cac7690f75370e4cd964e33f6bb0e556d15f6f249107b6c38e8a7f99d"), looks := true }, kinds := [], alts := [], laidByText := true, laidKinds := [.data, .data, .data, .sentinel, .sentinel], laidTests := true, laidLooks := .later }
def RatioSimpleCardSaid : Prop := Claim7.holds Tryd.pinned (.plain (OpenSpec.ofChange ratioSimpleSpec)) ratioSimpleCard

/-- THE TIED CARD OF 'secateurlaw02.RatioNear'. -/
def ratioNearCard : Claim7 := { stood := { row := ratioNearRow, standIns := [], harness := (true, "5076ce1cac7690f75370e4cd964e33f6bb0e556d15f6f249107b6c38e8a7f99d"), looks := true }, kinds := [], alts := [], laidByText := true, laidKinds := [.data, .data, .data, .sentinel, .sentinel], laidTests := true, laidLooks := .later }
def RatioNearCardSaid : Prop := Claim7.holds Tryd.pinned (.plain (OpenSpec.ofChange ratioNearSpec)) ratioNearCard

/-- THE SECOND FORM's CARD OF 'secateurlaw02.RatioMakes'. -/
def ratioMakesUptoCard : Claim7 := { stood := { row := ratioMakesUptoRow, standIns := [], harness := (true, "5076ce1cac7690f75370e4cd964e33f6bb0e556d15f6f249107b6c38e8a7f99d"), looks := true }, kinds := [], alts := [], laidByText := true, laidKinds := [.data, .data, .data, .sentinel, .sentinel], laidTests := true, laidLooks := .later }
def RatioMakesUptoCardSaid : Prop := Claim7.holds Tryd.pinned (.plain (OpenSpec.upto ratioMakesSpec)) ratioMakesUptoCard

/-- THE SECOND FORM's CARD OF 'secateurlaw02.RatioSigns'. -/
def ratioSignsUptoCard : Claim7 := { stood := { row := ratioSignsUptoRow, standIns := [], harness := (true, "5076ce1cac7690f75370e4cd964e33f6bb0e556d15f6f249107b6c38e8a7f99d"), looks := true }, kinds := [], alts := [], laidByText := true, laidKinds := [.data, .data, .data, .sentinel, .sentinel], laidTests := true, laidLooks := .later }
def RatioSignsUptoCardSaid : Prop := Claim7.holds Tryd.pinned (.plain (OpenSpec.upto ratioSignsSpec)) ratioSignsUptoCard

/-- THE SECOND FORM's CARD OF 'secateurlaw02.RatioOrders'. -/
def ratioOrdersUptoCard : Claim7 := { stood := { row := ratioOrdersUptoRow, standIns := [], harness := (true, "5076ce1cac7690f75370e4cd964e33f6bb0e556d15f6f249107b6c38e8a7f99d"), looks := true }, kinds := [], alts := [], laidByText := true, laidKinds := [.data, .data, .data, .sentinel, .sentinel], laidTests := true, laidLooks := .later }
def RatioOrdersUptoCardSaid : Prop := Claim7.holds Tryd.pinned (.plain (OpenSpec.upto ratioOrdersSpec)) ratioOrdersUptoCard

/-- THE SECOND FORM's CARD OF 'secateurlaw02.RatioSums'. -/
def ratioSumsUptoCard : Claim7 := { stood := { row := ratioSumsUptoRow, standIns := [], harness := (true, "5076ce1cac7690f75370e4cd964e33f6bb0e556d15f6f249107b6c38e8a7f99d"), looks := true }, kinds := [], alts := [], laidByText := true, laidKinds := [.data, .data, .data, .sentinel, .sentinel], laidTests := true, laidLooks := .later }
def RatioSumsUptoCardSaid : Prop := Claim7.holds Tryd.pinned (.plain (OpenSpec.upto ratioSumsSpec)) ratioSumsUptoCard

/-- THE SECOND FORM's CARD OF 'secateurlaw02.RatioBack'. -/
def ratioBackUptoCard : Claim7 := { stood := { row := ratioBackUptoRow, standIns := [], harness := (true, "5076ce1cac7690f75370e4cd964e33f6bb0e556d15f6f249107b6c38e8a7f99d"), looks := true }, kinds := [], alts := [], laidByText := true, laidKinds := [.data, .data, .data, .sentinel, .sentinel], laidTests := true, laidLooks := .later }
def RatioBackUptoCardSaid : Prop := Claim7.holds Tryd.pinned (.plain (OpenSpec.upto ratioBackSpec)) ratioBackUptoCard

/-- THE SECOND FORM's CARD OF 'secateurlaw02.RatioParts'. -/
def ratioPartsUptoCard : Claim7 := { stood := { row := ratioPartsUptoRow, standIns := [], harness := (true, "5076ce1cac7690f75370e4cd964e33f6bb0e556d15f6f249107b6c38e8a7f99d"), looks := true }, kinds := [], alts := [], laidByText := true, laidKinds := [.data, .data, .data, .sentinel, .sentinel], laidTests := true, laidLooks := .later }
def RatioPartsUptoCardSaid : Prop := Claim7.holds Tryd.pinned (.plain (OpenSpec.upto ratioPartsSpec)) ratioPartsUptoCard

/-- THE SECOND FORM's CARD OF 'secateurlaw02.RatioSimple'. -/
def ratioSimpleUptoCard : Claim7 := { stood := { row := ratioSimpleUptoRow, standIns := [], harness := (true, "5076ce1cac7690f75370e4cd964e33f6bb0e556d15f6f249107b6c38e8a7f99d"), looks := true }, kinds := [], alts := [], laidByText := true, laidKinds := [.data, .data, .data, .sentinel, .sentinel], laidTests := true, laidLooks := .later }
def RatioSimpleUptoCardSaid : Prop := Claim7.holds Tryd.pinned (.plain (OpenSpec.upto ratioSimpleSpec)) ratioSimpleUptoCard

/-- THE SECOND FORM's CARD OF 'secateurlaw02.RatioNear'. -/
def ratioNearUptoCard : Claim7 := { stood := { row := ratioNearUptoRow, standIns := [], harness := (true, "5076ce1cac7690f75370e4cd964e33f6bb0e556d15f6f249107b6c38e8a7f99d"), looks := true }, kinds := [], alts := [], laidByText := true, laidKinds := [.data, .data, .data, .sentinel, .sentinel], laidTests := true, laidLooks := .later }
def RatioNearUptoCardSaid : Prop := Claim7.holds Tryd.pinned (.plain (OpenSpec.upto ratioNearSpec)) ratioNearUptoCard
end Rows
end Go.Proofs.YtkdklmkcanjjfaaDoor
