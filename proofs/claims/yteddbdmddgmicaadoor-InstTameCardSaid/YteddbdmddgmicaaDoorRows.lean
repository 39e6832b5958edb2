/-
  NARROWER THAN 'FOR EVERY INPUT', by the rows' own cells (each row's printed sentence says how): InstChecks: laid · InstEqual: laid · InstApart: laid · InstTame: laid.
  DERIVED. THE GIVEN ROWS OF THIS SEAT. 4 by the template 'for every input the law returns true; each argument reads behind the call as it read before'; 0 by the template 'total and deterministic' (their statements: YteddbdmddgmicaaDoorTotals.lean).
  GIVEN WITH THE SEED: the statements are not yours to turn. If you find one false, say at which input.
  Laid BY PROGRAM, IN A SANDBOX (cutbox-rows.mjs): the forced cells as the released guide's own fill.sh prints them over the translation b7834cbb9c862344… (all of the seat's roots in one cut). By AI agents, Wed Nov 11 2026. No macro, syntax, notation, axiom, sorry.
-/
import Derived.Test.YteddbdmddgmicaaDoorChecked
import GoSem.Claim
import GoSem.ClaimJoined
import GoSem.ClaimMapViews
import Derived.JoinedTies
import Derived.KernelRfl
namespace Go.Proofs.YteddbdmddgmicaaDoor
/- THE CELL 'sum', in the pinned program and in every row, IS THE sha256 OF THE DUMP (.gsa) THAT YteddbdmddgmicaaDoorProg.lean LOADS. Nothing in Lean hashes anything: it is a label: what it is worth is what the hold of that sum in a sandbox is worth. -/
noncomputable def Tryd.pinned : Pinned := { name := "yteddbdmddgmicaadoor", sum := "b7834cbb9c862344da049fb51ad7e5a8a4e260dc4f78ef59ba047a4c271c9514", checked := Tryd.checked }
namespace Rows
def none {H : Type} : Left H := { results := [], args := [] }

/- WHAT THE LISTED PACKAGE-LEVEL VARIABLES READ AS WHEN THE CALL BEGINS. Each datum BY PROGRAM (the guide's laid-datum.mjs) off the statement by which the dump's own 'gosem.cut.vars' lays the variable. In a bare row this is a premise. The card (YteddbdmddgmicaaDoorCards.lean) ties it to the program's text. -/
def laid_secateur_inst_names {H : Type} : DataW H := .agg [.lit (.string [107, 110, 97, 112, 115, 97, 99, 107]), .lit (.string [97, 115, 115, 105, 103, 110, 109, 101, 110, 116]), .lit (.string [116, 115, 112]), .lit (.string [99, 111, 118, 101, 114])]

/-- 'secateurlaw09.InstChecks': WHATEVER THE INPUT: true; the input reads as it did. -/
def instChecksSpec : ChangeSpec := { name := "instChecks", fn := fun _ => fun
  | [d] => { results := [.lit (.bool true)], args := [d] }
  | _ => none }
def instChecksRow : OpenClaim := { program := "yteddbdmddgmicaadoor", sum := "b7834cbb9c862344da049fb51ad7e5a8a4e260dc4f78ef59ba047a4c271c9514", func := "secateur/secateurlaw09.InstChecks", spec := "instChecks", unfollowed := true, recurses := true, named := ["secateur/inst.names"], apart := false, laid := [("secateur/inst.names", laid_secateur_inst_names)] }
def InstChecksSaid : Prop := instChecksRow.holds Tryd.pinned (OpenSpec.ofChange instChecksSpec)

/-- ITS FALSE NEIGHBOUR: 'it returns false'. Refute it at one input. -/
def instChecksWrong : ChangeSpec := { name := "instChecks", fn := fun _ => fun
  | [d] => { results := [.lit (.bool false)], args := [d] }
  | _ => none }
def InstChecksWrongFalsely : Prop := instChecksRow.holds Tryd.pinned (OpenSpec.ofChange instChecksWrong)

/-- 'secateurlaw09.InstEqual': WHATEVER THE INPUT: true; the input reads as it did. -/
def instEqualSpec : ChangeSpec := { name := "instEqual", fn := fun _ => fun
  | [d1, d2] => { results := [.lit (.bool true)], args := [d1, d2] }
  | _ => none }
def instEqualRow : OpenClaim := { program := "yteddbdmddgmicaadoor", sum := "b7834cbb9c862344da049fb51ad7e5a8a4e260dc4f78ef59ba047a4c271c9514", func := "secateur/secateurlaw09.InstEqual", spec := "instEqual", unfollowed := true, recurses := true, named := ["secateur/inst.names"], apart := false, laid := [("secateur/inst.names", laid_secateur_inst_names)] }
def InstEqualSaid : Prop := instEqualRow.holds Tryd.pinned (OpenSpec.ofChange instEqualSpec)

/-- ITS FALSE NEIGHBOUR: 'it returns false'. Refute it at one input. -/
def instEqualWrong : ChangeSpec := { name := "instEqual", fn := fun _ => fun
  | [d1, d2] => { results := [.lit (.bool false)], args := [d1, d2] }
  | _ => none }
def InstEqualWrongFalsely : Prop := instEqualRow.holds Tryd.pinned (OpenSpec.ofChange instEqualWrong)

/-- 'secateurlaw09.InstApart': WHATEVER THE INPUT: true; the input reads as it did. -/
def instApartSpec : ChangeSpec := { name := "instApart", fn := fun _ => fun
  | [d] => { results := [.lit (.bool true)], args := [d] }
  | _ => none }
def instApartRow : OpenClaim := { program := "yteddbdmddgmicaadoor", sum := "b7834cbb9c862344da049fb51ad7e5a8a4e260dc4f78ef59ba047a4c271c9514", func := "secateur/secateurlaw09.InstApart", spec := "instApart", unfollowed := true, recurses := true, named := ["secateur/inst.names"], apart := false, laid := [("secateur/inst.names", laid_secateur_inst_names)] }
def InstApartSaid : Prop := instApartRow.holds Tryd.pinned (OpenSpec.ofChange instApartSpec)

/-- ITS FALSE NEIGHBOUR: 'it returns false'. Refute it at one input. -/
def instApartWrong : ChangeSpec := { name := "instApart", fn := fun _ => fun
  | [d] => { results := [.lit (.bool false)], args := [d] }
  | _ => none }
def InstApartWrongFalsely : Prop := instApartRow.holds Tryd.pinned (OpenSpec.ofChange instApartWrong)

/-- 'secateurlaw09.InstTame': WHATEVER THE INPUT: true; the input reads as it did. -/
def instTameSpec : ChangeSpec := { name := "instTame", fn := fun _ => fun
  | [d1, d2] => { results := [.lit (.bool true)], args := [d1, d2] }
  | _ => none }
def instTameRow : OpenClaim := { program := "yteddbdmddgmicaadoor", sum := "b7834cbb9c862344da049fb51ad7e5a8a4e260dc4f78ef59ba047a4c271c9514", func := "secateur/secateurlaw09.InstTame", spec := "instTame", unfollowed := true, recurses := true, named := ["secateur/inst.names"], apart := false, laid := [("secateur/inst.names", laid_secateur_inst_names)] }
def InstTameSaid : Prop := instTameRow.holds Tryd.pinned (OpenSpec.ofChange instTameSpec)

/-- ITS FALSE NEIGHBOUR: 'it returns false'. Refute it at one input. -/
def instTameWrong : ChangeSpec := { name := "instTame", fn := fun _ => fun
  | [d1, d2] => { results := [.lit (.bool false)], args := [d1, d2] }
  | _ => none }
def InstTameWrongFalsely : Prop := instTameRow.holds Tryd.pinned (OpenSpec.ofChange instTameWrong)

/- THE SECOND FORM. 'bulk': how many values and letters a reading holds, each counted each time it is reached (what is shared counts as often as it is met; a slice's spare places count too). A statement '..UptoSaid' is the law's where the arguments, and the package variables that the reading takes, are together of bulk at most 1048576: NARROWER than '..Said'. Prove '..Said' where nothing that the law and all that it calls make is longer than what came in: it says more and counts as full. Else prove '..UptoSaid'. A law counts once. -/
mutual
def uptoBulk {H : Type} : DataW H → Nat
  | .lit (.string bytes) => bytes.length + 1
  | .lit _ => 1
  | .nil => 1
  | .ptr d => uptoBulk d + 1
  | .slice elems spare => uptoBulkAll elems + uptoBulkAll spare + 1
  | .agg parts => uptoBulkAll parts + 1
  | .iface _ d => uptoBulk d + 1
  | .map entries => uptoBulkEntries entries + 1
  | .held _ => 1
def uptoBulkAll {H : Type} : List (DataW H) → Nat
  | [] => 0
  | d :: r => uptoBulk d + uptoBulkAll r
def uptoBulkEntries {H : Type} : List (Lit × DataW H) → Nat
  | [] => 0
  | x :: r => uptoBulkEntry x + uptoBulkEntries r
def uptoBulkEntry {H : Type} : Lit × DataW H → Nat
  | (.string bytes, d) => bytes.length + uptoBulk d + 1
  | (_, d) => uptoBulk d + 1
 end
def uptoSmall : (H : Type) → List (DataW H) → Bool := fun _ ds => decide (uptoBulkAll ds ≤ 1048576)
def OpenSpec.upto (s : _root_.Go.ChangeSpec) : _root_.Go.OpenSpec := { _root_.Go.OpenSpec.ofChange s with cond := some uptoSmall }

/-- 'secateurlaw09.InstChecks', WHERE WHAT IT READS IS OF BULK AT MOST 1048576: true; the input reads as it did. -/
def instChecksUptoRow : OpenClaim := { program := "yteddbdmddgmicaadoor", sum := "b7834cbb9c862344da049fb51ad7e5a8a4e260dc4f78ef59ba047a4c271c9514", func := "secateur/secateurlaw09.InstChecks", spec := "instChecks", unfollowed := true, recurses := true, named := ["secateur/inst.names"], apart := false, laid := [("secateur/inst.names", laid_secateur_inst_names)], narrowed := true }
def InstChecksUptoSaid : Prop := instChecksUptoRow.holds Tryd.pinned (OpenSpec.upto instChecksSpec)

/-- 'secateurlaw09.InstEqual', WHERE WHAT IT READS IS OF BULK AT MOST 1048576: true; the input reads as it did. -/
def instEqualUptoRow : OpenClaim := { program := "yteddbdmddgmicaadoor", sum := "b7834cbb9c862344da049fb51ad7e5a8a4e260dc4f78ef59ba047a4c271c9514", func := "secateur/secateurlaw09.InstEqual", spec := "instEqual", unfollowed := true, recurses := true, named := ["secateur/inst.names"], apart := false, laid := [("secateur/inst.names", laid_secateur_inst_names)], narrowed := true }
def InstEqualUptoSaid : Prop := instEqualUptoRow.holds Tryd.pinned (OpenSpec.upto instEqualSpec)

/-- 'secateurlaw09.InstApart', WHERE WHAT IT READS IS OF BULK AT MOST 1048576: true; the input reads as it did. -/
def instApartUptoRow : OpenClaim := { program := "yteddbdmddgmicaadoor", sum := "b7834cbb9c862344da049fb51ad7e5a8a4e260dc4f78ef59ba047a4c271c9514", func := "secateur/secateurlaw09.InstApart", spec := "instApart", unfollowed := true, recurses := true, named := ["secateur/inst.names"], apart := false, laid := [("secateur/inst.names", laid_secateur_inst_names)], narrowed := true }
def InstApartUptoSaid : Prop := instApartUptoRow.holds Tryd.pinned (OpenSpec.upto instApartSpec)

/-- 'secateurlaw09.InstTame', WHERE WHAT IT READS IS OF BULK AT MOST 1048576: true; the input reads as it did. -/
def instTameUptoRow : OpenClaim := { program := "yteddbdmddgmicaadoor", sum := "b7834cbb9c862344da049fb51ad7e5a8a4e260dc4f78ef59ba047a4c271c9514", func := "secateur/secateurlaw09.InstTame", spec := "instTame", unfollowed := true, recurses := true, named := ["secateur/inst.names"], apart := false, laid := [("secateur/inst.names", laid_secateur_inst_names)], narrowed := true }
def InstTameUptoSaid : Prop := instTameUptoRow.holds Tryd.pinned (OpenSpec.upto instTameSpec)

end Rows
end Go.Proofs.YteddbdmddgmicaaDoor
