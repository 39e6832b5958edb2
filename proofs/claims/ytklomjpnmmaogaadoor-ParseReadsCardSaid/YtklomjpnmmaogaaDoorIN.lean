/- The walk of a kind's word; it reads the laid variable of words. -/
import Derived.Test.YtklomjpnmmaogaaDoorIA
import Derived.WalkSmall
import Derived.FnData
namespace Go.Proofs.YtklomjpnmmaogaaDoor
open Go.RowKit
set_option linter.unusedVariables false
set_option linter.unusedSimpArgs false
set_option maxRecDepth 100000

/-- The words lie where the program keeps them. -/
structure NamesW (W : World) : Prop where
  var : W.var? Tryd.prog "secateur/inst.names" = some #[.string ⟨#[107, 110, 97, 112, 115, 97, 99, 107]⟩, .string ⟨#[97, 115, 115, 105, 103, 110, 109, 101, 110, 116]⟩, .string ⟨#[116, 115, 112]⟩, .string ⟨#[99, 111, 118, 101, 114]⟩]
  sz : 1 < W.heap.size
theorem NamesW.below {W W' : World} (h : NamesW W) (hb : Below W.heap.size W W') : NamesW W' :=
  ⟨var?_below hb (by kernel_rfl) h.sz h.var, by have := h.sz; have := hb.size; omega⟩
theorem NamesW.cell {W : World} (h : NamesW W) (i : Nat) (u : Value) (hu : (#[.string ⟨#[107, 110, 97, 112, 115, 97, 99, 107]⟩, .string ⟨#[97, 115, 115, 105, 103, 110, 109, 101, 110, 116]⟩, .string ⟨#[116, 115, 112]⟩, .string ⟨#[99, 111, 118, 101, 114]⟩] : Array Value)[i]? = some u) : W.cell? ⟨1, i, none⟩ = some u := by
  have := World.var?_cell (show Tryd.prog.globalNamed "secateur/inst.names" = some 1 by kernel_rfl) h.var i
  rw [this]; exact hu
def nameR (k : Int) : ByteArray := if k = 0 then ⟨#[107, 110, 97, 112, 115, 97, 99, 107]⟩ else if k = 1 then ⟨#[97, 115, 115, 105, 103, 110, 109, 101, 110, 116]⟩ else if k = 2 then ⟨#[116, 115, 112]⟩ else if k = 3 then ⟨#[99, 111, 118, 101, 114]⟩ else ⟨#[]⟩
theorem name_any (k : Int) (w : World) (hw : NamesW w) : Calls Tryd.prog 62 #[.int .i64 k] w fun e w' => e = .returned (.string (nameR k)) ∧ Below w.heap.size w w' := by
  have H1 := Lib.hid (fun w => is_any k w)
  have H2 := Lib.hid (fun w' (hb : Below w.heap.size w w') => hw.below hb)
  clear hw
  by_cases h0 : k = 0
  · subst h0
    go_enter Tryd.func62, Tryd.ntmps62
    go_wp2_with fail
    refine (H1.out _).mono ?_; rintro e v1 ⟨rfl, hb1⟩
    have hz : kindB 0 = true := by decide
    have c := (H2.out _ hb1).cell 0 _ rfl
    clear H1 H2
    go_wp2
    go_ret
    exact ⟨rfl, hb1⟩
  by_cases h1 : k = 1
  · subst h1
    go_enter Tryd.func62, Tryd.ntmps62
    go_wp2_with fail
    refine (H1.out _).mono ?_; rintro e v1 ⟨rfl, hb1⟩
    have hz : kindB 1 = true := by decide
    have c := (H2.out _ hb1).cell 1 _ rfl
    clear H1 H2
    go_wp2
    go_ret
    exact ⟨rfl, hb1⟩
  by_cases h2 : k = 2
  · subst h2
    go_enter Tryd.func62, Tryd.ntmps62
    go_wp2_with fail
    refine (H1.out _).mono ?_; rintro e v1 ⟨rfl, hb1⟩
    have hz : kindB 2 = true := by decide
    have c := (H2.out _ hb1).cell 2 _ rfl
    clear H1 H2
    go_wp2
    go_ret
    exact ⟨rfl, hb1⟩
  by_cases h3 : k = 3
  · subst h3
    go_enter Tryd.func62, Tryd.ntmps62
    go_wp2_with fail
    refine (H1.out _).mono ?_; rintro e v1 ⟨rfl, hb1⟩
    have hz : kindB 3 = true := by decide
    have c := (H2.out _ hb1).cell 3 _ rfl
    clear H1 H2
    go_wp2
    go_ret
    exact ⟨rfl, hb1⟩
  · have e1 : nameR k = ⟨#[]⟩ := by unfold nameR; rw [if_neg h0, if_neg h1, if_neg h2, if_neg h3]
    have e2 : kindB k = false := by unfold kindB; simp; omega
    rw [e1]
    rw [e2] at H1
    clear h0 h1 h2 h3 e1 e2 H2
    go_enter Tryd.func62, Tryd.ntmps62
    go_wp2_with fail
    refine (H1.out _).mono ?_; rintro e v1 ⟨rfl, hb1⟩
    clear H1
    go_wp2
    go_ret
    exact ⟨rfl, hb1⟩
end Go.Proofs.YtklomjpnmmaogaaDoor
