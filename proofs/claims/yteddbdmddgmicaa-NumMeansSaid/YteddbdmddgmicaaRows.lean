/-
  No cell of these rows narrows 'for every input' (looked for: loops, veiled, ifaces, maps, wideKeys, modest, calm, conditions, laid).
  DERIVED. THE GIVEN ROWS OF THIS SEAT. 7 by the template 'for every input the law returns true; each argument reads behind the call as it read before'; 0 by the template 'total and deterministic' (their statements: YteddbdmddgmicaaTotals.lean).
  GIVEN WITH THE SEED: the statements are not yours to turn. If you find one false, say at which input.
  Laid BY PROGRAM, IN A SANDBOX (cutbox-rows.mjs): the forced cells as the released guide's own fill.sh prints them over the translation b009430a6100b88c… (all of the seat's roots in one cut). By AI agents, Wed Nov 11 2026. No macro, syntax, notation, axiom, sorry.
-/
import Derived.Test.YteddbdmddgmicaaChecked
import GoSem.Claim
import GoSem.ClaimJoined
import GoSem.ClaimMapViews
import Derived.JoinedTies
import Derived.KernelRfl
namespace Go.Proofs.Yteddbdmddgmicaa
/- THE CELL 'sum', in the pinned program and in every row, IS THE sha256 OF THE DUMP (.gsa) THAT YteddbdmddgmicaaProg.lean LOADS. Nothing in Lean hashes anything: it is a label: what it is worth is what the hold of that sum in a sandbox is worth. -/
noncomputable def Try.pinned : Pinned := { name := "yteddbdmddgmicaa", sum := "b009430a6100b88c99b1daf5c6a33667a3ebccee55150c8f6bf87dfb0446b567", checked := Try.checked }
namespace Rows
def none {H : Type} : Left H := { results := [], args := [] }

/-- 'secateurlaw01.NumCross': WHATEVER THE INPUT: true; the input reads as it did. -/
def numCrossSpec : ChangeSpec := { name := "numCross", fn := fun _ => fun
  | [d1, d2, d3] => { results := [.lit (.bool true)], args := [d1, d2, d3] }
  | _ => none }
def numCrossRow : OpenClaim := { program := "yteddbdmddgmicaa", sum := "b009430a6100b88c99b1daf5c6a33667a3ebccee55150c8f6bf87dfb0446b567", func := "secateur/secateurlaw01.NumCross", spec := "numCross", inPlace := ["math/bits.Add64", "math/bits.Sub64"], apart := false }
def NumCrossSaid : Prop := numCrossRow.holds Try.pinned (OpenSpec.ofChange numCrossSpec)

/-- ITS FALSE NEIGHBOUR: 'it returns false'. Refute it at one input. -/
def numCrossWrong : ChangeSpec := { name := "numCross", fn := fun _ => fun
  | [d1, d2, d3] => { results := [.lit (.bool false)], args := [d1, d2, d3] }
  | _ => none }
def NumCrossWrongFalsely : Prop := numCrossRow.holds Try.pinned (OpenSpec.ofChange numCrossWrong)

/-- 'secateurlaw01.NumBack': WHATEVER THE INPUT: true; the input reads as it did. -/
def numBackSpec : ChangeSpec := { name := "numBack", fn := fun _ => fun
  | [d1, d2] => { results := [.lit (.bool true)], args := [d1, d2] }
  | _ => none }
def numBackRow : OpenClaim := { program := "yteddbdmddgmicaa", sum := "b009430a6100b88c99b1daf5c6a33667a3ebccee55150c8f6bf87dfb0446b567", func := "secateur/secateurlaw01.NumBack", spec := "numBack", inPlace := ["math/bits.Add64", "math/bits.Sub64"], apart := false }
def NumBackSaid : Prop := numBackRow.holds Try.pinned (OpenSpec.ofChange numBackSpec)

/-- ITS FALSE NEIGHBOUR: 'it returns false'. Refute it at one input. -/
def numBackWrong : ChangeSpec := { name := "numBack", fn := fun _ => fun
  | [d1, d2] => { results := [.lit (.bool false)], args := [d1, d2] }
  | _ => none }
def NumBackWrongFalsely : Prop := numBackRow.holds Try.pinned (OpenSpec.ofChange numBackWrong)

/-- 'secateurlaw01.NumSums': WHATEVER THE INPUT: true; the input reads as it did. -/
def numSumsSpec : ChangeSpec := { name := "numSums", fn := fun _ => fun
  | [d1, d2] => { results := [.lit (.bool true)], args := [d1, d2] }
  | _ => none }
def numSumsRow : OpenClaim := { program := "yteddbdmddgmicaa", sum := "b009430a6100b88c99b1daf5c6a33667a3ebccee55150c8f6bf87dfb0446b567", func := "secateur/secateurlaw01.NumSums", spec := "numSums", inPlace := ["math/bits.Add64", "math/bits.Sub64"], recurses := true, apart := false }
def NumSumsSaid : Prop := numSumsRow.holds Try.pinned (OpenSpec.ofChange numSumsSpec)

/-- ITS FALSE NEIGHBOUR: 'it returns false'. Refute it at one input. -/
def numSumsWrong : ChangeSpec := { name := "numSums", fn := fun _ => fun
  | [d1, d2] => { results := [.lit (.bool false)], args := [d1, d2] }
  | _ => none }
def NumSumsWrongFalsely : Prop := numSumsRow.holds Try.pinned (OpenSpec.ofChange numSumsWrong)

/-- 'secateurlaw01.NumQuotients': WHATEVER THE INPUT: true; the input reads as it did. -/
def numQuotientsSpec : ChangeSpec := { name := "numQuotients", fn := fun _ => fun
  | [d1, d2] => { results := [.lit (.bool true)], args := [d1, d2] }
  | _ => none }
def numQuotientsRow : OpenClaim := { program := "yteddbdmddgmicaa", sum := "b009430a6100b88c99b1daf5c6a33667a3ebccee55150c8f6bf87dfb0446b567", func := "secateur/secateurlaw01.NumQuotients", spec := "numQuotients", inPlace := ["math/bits.Add64", "math/bits.Sub64"], recurses := true, apart := false }
def NumQuotientsSaid : Prop := numQuotientsRow.holds Try.pinned (OpenSpec.ofChange numQuotientsSpec)

/-- ITS FALSE NEIGHBOUR: 'it returns false'. Refute it at one input. -/
def numQuotientsWrong : ChangeSpec := { name := "numQuotients", fn := fun _ => fun
  | [d1, d2] => { results := [.lit (.bool false)], args := [d1, d2] }
  | _ => none }
def NumQuotientsWrongFalsely : Prop := numQuotientsRow.holds Try.pinned (OpenSpec.ofChange numQuotientsWrong)

/-- 'secateurlaw01.NumTurns': WHATEVER THE INPUT: true; the input reads as it did. -/
def numTurnsSpec : ChangeSpec := { name := "numTurns", fn := fun _ => fun
  | [d1, d2] => { results := [.lit (.bool true)], args := [d1, d2] }
  | _ => none }
def numTurnsRow : OpenClaim := { program := "yteddbdmddgmicaa", sum := "b009430a6100b88c99b1daf5c6a33667a3ebccee55150c8f6bf87dfb0446b567", func := "secateur/secateurlaw01.NumTurns", spec := "numTurns", inPlace := ["math/bits.Add64", "math/bits.Sub64"], apart := false }
def NumTurnsSaid : Prop := numTurnsRow.holds Try.pinned (OpenSpec.ofChange numTurnsSpec)

/-- ITS FALSE NEIGHBOUR: 'it returns false'. Refute it at one input. -/
def numTurnsWrong : ChangeSpec := { name := "numTurns", fn := fun _ => fun
  | [d1, d2] => { results := [.lit (.bool false)], args := [d1, d2] }
  | _ => none }
def NumTurnsWrongFalsely : Prop := numTurnsRow.holds Try.pinned (OpenSpec.ofChange numTurnsWrong)

/-- 'secateurlaw01.NumLists': WHATEVER THE INPUT: true; the input reads as it did. -/
def numListsSpec : ChangeSpec := { name := "numLists", fn := fun _ => fun
  | [d] => { results := [.lit (.bool true)], args := [d] }
  | _ => none }
def numListsRow : OpenClaim := { program := "yteddbdmddgmicaa", sum := "b009430a6100b88c99b1daf5c6a33667a3ebccee55150c8f6bf87dfb0446b567", func := "secateur/secateurlaw01.NumLists", spec := "numLists", inPlace := ["math/bits.Add64", "math/bits.Sub64"], recurses := true, apart := false }
def NumListsSaid : Prop := numListsRow.holds Try.pinned (OpenSpec.ofChange numListsSpec)

/-- ITS FALSE NEIGHBOUR: 'it returns false'. Refute it at one input. -/
def numListsWrong : ChangeSpec := { name := "numLists", fn := fun _ => fun
  | [d] => { results := [.lit (.bool false)], args := [d] }
  | _ => none }
def NumListsWrongFalsely : Prop := numListsRow.holds Try.pinned (OpenSpec.ofChange numListsWrong)

/-- 'secateurlaw01.NumMeans': WHATEVER THE INPUT: true; the input reads as it did. -/
def numMeansSpec : ChangeSpec := { name := "numMeans", fn := fun _ => fun
  | [d1, d2] => { results := [.lit (.bool true)], args := [d1, d2] }
  | _ => none }
def numMeansRow : OpenClaim := { program := "yteddbdmddgmicaa", sum := "b009430a6100b88c99b1daf5c6a33667a3ebccee55150c8f6bf87dfb0446b567", func := "secateur/secateurlaw01.NumMeans", spec := "numMeans", inPlace := ["math/bits.Add64", "math/bits.Sub64"], recurses := true, named := ["math/bits.divideError", "math/bits.overflowError"], apart := false }
def NumMeansSaid : Prop := numMeansRow.holds Try.pinned (OpenSpec.ofChange numMeansSpec)

/-- ITS FALSE NEIGHBOUR: 'it returns false'. Refute it at one input. -/
def numMeansWrong : ChangeSpec := { name := "numMeans", fn := fun _ => fun
  | [d1, d2] => { results := [.lit (.bool false)], args := [d1, d2] }
  | _ => none }
def NumMeansWrongFalsely : Prop := numMeansRow.holds Try.pinned (OpenSpec.ofChange numMeansWrong)

/- THE SECOND FORM. 'bulk': how many values and letters a reading holds, each counted each time it is reached (what is shared counts as often as it is met; a slice's spare places count too). A statement '..UptoSaid' is the law's where the arguments, and the package variables that the reading takes, are together of bulk at most 1048576: NARROWER than '..Said'. Prove '..Said' where nothing that the law and all that it calls make is longer than what came in: it says more and counts as full. Else prove '..UptoSaid'. A law counts once. -/
mutual
def uptoBulk {H : Type} : DataW H → Nat
  | .lit (.string bytes) => bytes.length + 1
  | .lit _ => 1
  | .nil => 1
  | .ptr d => uptoBulk d + 1
  | .slice elems spare => uptoBulkAll elems + uptoBulkAll spare + 1
  | .agg parts => uptoBulkAll parts + 1
  | .iface _ d => uptoBulk d + 1
  | .map entries => uptoBulkEntries entries + 1
  | .held _ => 1
def uptoBulkAll {H : Type} : List (DataW H) → Nat
  | [] => 0
  | d :: r => uptoBulk d + uptoBulkAll r
def uptoBulkEntries {H : Type} : List (Lit × DataW H) → Nat
  | [] => 0
  | x :: r => uptoBulkEntry x + uptoBulkEntries r
def uptoBulkEntry {H : Type} : Lit × DataW H → Nat
  | (.string bytes, d) => bytes.length + uptoBulk d + 1
  | (_, d) => uptoBulk d + 1
 end
def uptoSmall : (H : Type) → List (DataW H) → Bool := fun _ ds => decide (uptoBulkAll ds ≤ 1048576)
def OpenSpec.upto (s : _root_.Go.ChangeSpec) : _root_.Go.OpenSpec := { _root_.Go.OpenSpec.ofChange s with cond := some uptoSmall }

/-- 'secateurlaw01.NumCross', WHERE WHAT IT READS IS OF BULK AT MOST 1048576: true; the input reads as it did. -/
def numCrossUptoRow : OpenClaim := { program := "yteddbdmddgmicaa", sum := "b009430a6100b88c99b1daf5c6a33667a3ebccee55150c8f6bf87dfb0446b567", func := "secateur/secateurlaw01.NumCross", spec := "numCross", inPlace := ["math/bits.Add64", "math/bits.Sub64"], apart := false, narrowed := true }
def NumCrossUptoSaid : Prop := numCrossUptoRow.holds Try.pinned (OpenSpec.upto numCrossSpec)

/-- 'secateurlaw01.NumBack', WHERE WHAT IT READS IS OF BULK AT MOST 1048576: true; the input reads as it did. -/
def numBackUptoRow : OpenClaim := { program := "yteddbdmddgmicaa", sum := "b009430a6100b88c99b1daf5c6a33667a3ebccee55150c8f6bf87dfb0446b567", func := "secateur/secateurlaw01.NumBack", spec := "numBack", inPlace := ["math/bits.Add64", "math/bits.Sub64"], apart := false, narrowed := true }
def NumBackUptoSaid : Prop := numBackUptoRow.holds Try.pinned (OpenSpec.upto numBackSpec)

/-- 'secateurlaw01.NumSums', WHERE WHAT IT READS IS OF BULK AT MOST 1048576: true; the input reads as it did. -/
def numSumsUptoRow : OpenClaim := { program := "yteddbdmddgmicaa", sum := "b009430a6100b88c99b1daf5c6a33667a3ebccee55150c8f6bf87dfb0446b567", func := "secateur/secateurlaw01.NumSums", spec := "numSums", inPlace := ["math/bits.Add64", "math/bits.Sub64"], recurses := true, apart := false, narrowed := true }
def NumSumsUptoSaid : Prop := numSumsUptoRow.holds Try.pinned (OpenSpec.upto numSumsSpec)

/-- 'secateurlaw01.NumQuotients', WHERE WHAT IT READS IS OF BULK AT MOST 1048576: true; the input reads as it did. -/
def numQuotientsUptoRow : OpenClaim := { program := "yteddbdmddgmicaa", sum := "b009430a6100b88c99b1daf5c6a33667a3ebccee55150c8f6bf87dfb0446b567", func := "secateur/secateurlaw01.NumQuotients", spec := "numQuotients", inPlace := ["math/bits.Add64", "math/bits.Sub64"], recurses := true, apart := false, narrowed := true }
def NumQuotientsUptoSaid : Prop := numQuotientsUptoRow.holds Try.pinned (OpenSpec.upto numQuotientsSpec)

/-- 'secateurlaw01.NumTurns', WHERE WHAT IT READS IS OF BULK AT MOST 1048576: true; the input reads as it did. -/
def numTurnsUptoRow : OpenClaim := { program := "yteddbdmddgmicaa", sum := "b009430a6100b88c99b1daf5c6a33667a3ebccee55150c8f6bf87dfb0446b567", func := "secateur/secateurlaw01.NumTurns", spec := "numTurns", inPlace := ["math/bits.Add64", "math/bits.Sub64"], apart := false, narrowed := true }
def NumTurnsUptoSaid : Prop := numTurnsUptoRow.holds Try.pinned (OpenSpec.upto numTurnsSpec)

/-- 'secateurlaw01.NumLists', WHERE WHAT IT READS IS OF BULK AT MOST 1048576: true; the input reads as it did. -/
def numListsUptoRow : OpenClaim := { program := "yteddbdmddgmicaa", sum := "b009430a6100b88c99b1daf5c6a33667a3ebccee55150c8f6bf87dfb0446b567", func := "secateur/secateurlaw01.NumLists", spec := "numLists", inPlace := ["math/bits.Add64", "math/bits.Sub64"], recurses := true, apart := false, narrowed := true }
def NumListsUptoSaid : Prop := numListsUptoRow.holds Try.pinned (OpenSpec.upto numListsSpec)

/-- 'secateurlaw01.NumMeans', WHERE WHAT IT READS IS OF BULK AT MOST 1048576: true; the input reads as it did. -/
def numMeansUptoRow : OpenClaim := { program := "yteddbdmddgmicaa", sum := "b009430a6100b88c99b1daf5c6a33667a3ebccee55150c8f6bf87dfb0446b567", func := "secateur/secateurlaw01.NumMeans", spec := "numMeans", inPlace := ["math/bits.Add64", "math/bits.Sub64"], recurses := true, named := ["math/bits.divideError", "math/bits.overflowError"], apart := false, narrowed := true }
def NumMeansUptoSaid : Prop := numMeansUptoRow.holds Try.pinned (OpenSpec.upto numMeansSpec)

end Rows
end Go.Proofs.Yteddbdmddgmicaa
