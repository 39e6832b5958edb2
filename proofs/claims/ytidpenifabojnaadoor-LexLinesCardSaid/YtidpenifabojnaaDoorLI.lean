/- wakes: the tokens of one text. -/
import Derived.Test.YtidpenifabojnaaDoorLH
namespace Go.Proofs.YtidpenifabojnaaDoor
open Go Go.RowKit
set_option linter.unusedVariables false
set_option linter.unusedSimpArgs false
set_option maxRecDepth 100000

def lit : List UInt8 := [115, 101, 116, 32, 45, 53, 58, 32, 49, 32, 35, 32, 99, 97, 102, 195, 169]
def litT : List Tok := [⟨0, [115, 101, 116], 0, 1, 1⟩, ⟨1, [45, 53], -5, 1, 5⟩, ⟨2, [58], 0, 1, 7⟩, ⟨1, [49], 1, 1, 9⟩, ⟨3, [], 0, 1, 17⟩]
theorem lit_lex : lexT lit = .ok litT := by kernel_rfl
theorem lit_c (w : World) (hw : LexW w) : Calls Tryd.prog 7 #[.string ⟨#[115, 101, 116, 32, 45, 53, 58, 32, 49, 32, 35, 32, 99, 97, 102, 195, 169]⟩] w fun e w' => ∃ g d, e = .returned (.tuple #[.slice (some ⟨g, 0, none⟩) 5 d, .agg #[.int .i64 0, .int .i64 0], .int .i64 0]) ∧ 5 ≤ d ∧ d ≤ 9223372036854775807 ∧ (∀ j u, (toksC litT)[j]? = some u → w'.cell? ⟨g, j, none⟩ = some u) ∧ Below w.heap.size w w' := by
  refine (lex_any ⟨#[115, 101, 116, 32, 45, 53, 58, 32, 49, 32, 35, 32, 99, 97, 102, 195, 169]⟩ w hw).mono ?_
  rintro e w' ⟨⟨a, c, er, _, h, _⟩ | ⟨L, D, d, h, rfl, ho⟩, hb⟩
  · have h : lexT lit = .err a c er := h
    rw [lit_lex] at h
    cases h
  · have h : lexT lit = .ok L := h
    rw [lit_lex] at h
    injection h with h
    subst h
    obtain ⟨A, c, e, h1, h2⟩ := own_slice ho
    injection e with e1 _ e2
    subst e1 e2
    obtain ⟨g, rfl, _, _, hc, _⟩ := own_lt ho (by decide)
    exact ⟨g, d, rfl, h1, h2, hc, hb⟩
set_option maxHeartbeats 1600000 in
theorem wakes_any (w : World) (hw : LexW w) : Calls Tryd.prog 8 #[] w fun e w' => e = .returned (.bool true) ∧ Below w.heap.size w w' := by
  have HC := Lib.hid (fun w' (hb : Below w.heap.size w w') => lit_c w' (hw.below hb))
  clear hw
  go_enter Tryd.func8, Tryd.ntmps8
  go_wp2_with fail
  refine (HC.out _ (Below.refl _ _)).mono ?_; rintro e v1 ⟨g, d, rfl, h1, h2, hc, hb1⟩
  have k1 : v1.cell? ⟨g, 1, none⟩ = some (.string ⟨#[115, 101, 116]⟩) := hc 1 _ rfl
  have k7 : v1.cell? ⟨g, 7, none⟩ = some (.int .i64 (-5)) := hc 7 _ rfl
  have k10 : v1.cell? ⟨g, 10, none⟩ = some (.int .i64 2) := hc 10 _ rfl
  have k17 : v1.cell? ⟨g, 17, none⟩ = some (.int .i64 1) := hc 17 _ rfl
  have k23 : v1.cell? ⟨g, 23, none⟩ = some (.int .i64 1) := hc 23 _ rfl
  have k24 : v1.cell? ⟨g, 24, none⟩ = some (.int .i64 17) := hc 24 _ rfl
  have gl : g < v1.heap.size := by
    by_cases h : g < v1.heap.size
    · exact h
    · have := hc 1 _ rfl
      simp [World.cell?, Array.getElem?_eq_none (Nat.le_of_not_lt h)] at this
  have ne : ¬ v1.heap.size = g := by omega
  clear hc HC
  go_wp2
  go_ret
  exact ⟨rfl, bl_alloc hb1 _⟩
end Go.Proofs.YtidpenifabojnaaDoor
