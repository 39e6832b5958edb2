/- One place of each row, each in another column, that all may be taken, come to no less than the prices together, or than other numbers that are told. -/
import Derived.Test.YtamfhommmogknaaRows
import Derived.Test.YtamfhommmogknaaReduceLeastW
import Derived.Test.YtamfhommmogknaaRowLaw
import Derived.Test.YtamfhommmogknaaDO2
namespace Go.Proofs.Ytamfhommmogknaa.reduceLeast
open Go.ChangeShapes Go.WideShapes Go.ChangeAt Go.RowKit
set_option linter.unusedVariables false

theorem own : ownKnob Try.prog.godebug = none := by kernel_rfl

set_option maxRecDepth 100000 in
theorem lifted (os : Os) (started : os.Started) (H : Type) (enc : TypeId × Value → H) :
    ReturnsInHanded {} Try.checked os 5 .any (Rows.reduceLeastSpec.pre6 enc Try.prog Try.f5 Rows.reduceLeastRow.domain false) (Rows.reduceLeastSpec.post enc Try.prog Try.f5 false true false false) := by
  refine returnsInHanded_of_change (C := Try.checked) own started (by kernel_rfl) Try.func5
    (ChangeSpec.witness6 (enc := enc) (C := Try.checked) false ⟨#[], #[.slice none 0 0, .slice none 0 0, .slice none 0 0], []⟩ 8 (by kernel_rfl) (by kernel_rfl) (by kernel_rfl) (by kernel_rfl)) ?_
  intro W base args ds gs before hval0 hW hcnd _
  have hval : ∀ (j : Nat) t v, Try.f5.params[j]? = some t → args[j]? = some v → Value.okWide Try.prog W .any base t v := hval0
  have hW' := hW
  obtain ⟨p, q, hA0, hV, rfl, hfz, hnd⟩ := hW
  have hA : DataW.TrodAll enc Try.prog W 0 (fun _ => true) true Try.f5.params.toList args.toList ds p := hA0
  rw [Try.params5] at hA hval
  obtain ⟨v0, vs0, d0, ds0, p0, q0, hargs, rfl, rfl, h0, r0⟩ := trodAll_cons hA
  obtain ⟨v1, vs1, d1, ds1, p1, q1, rfl, rfl, rfl, h1, r1⟩ := trodAll_cons r0
  obtain ⟨v2, vs2, d2, ds2, p2, q2, rfl, rfl, rfl, h2, r2⟩ := trodAll_cons r1
  obtain ⟨rfl, rfl, rfl⟩ := trodAll_nil r2
  obtain rfl : args = #[v0, v1, v2] := by cases args; simp_all
  obtain ⟨rfl, rfl⟩ := trodVars_none hV
  obtain ⟨A0, l0, c0, rfl, n0, m0, R0, I0⟩ := open_ii (hval 0 22 v0 rfl rfl) h0
  obtain ⟨A1, l1, c1, rfl, n1, m1, R1⟩ := open_bb (hval 1 23 v1 rfl rfl) h1
  obtain ⟨A2, l2, c2, rfl, n2, m2, R2, I2⟩ := open_pp (hval 2 36 v2 rfl rfl) h2
  clear hA0 hval0
  refine (ReduceLeast_walk l0 l1 A0 A1 c0 c1 l2 A2 c2 W ⟨R0, R1, ⟨n0, m0⟩, ⟨n1, m1⟩, I0, Nat.le_refl _⟩ R2 ⟨n2, m2⟩ I2).mono fun e W' ⟨he, hg⟩ => ?_
  subst he
  exact ⟨_, rfl, post_law (tb := 4) (by kernel_rfl) (by kernel_rfl) rfl (by kernel_rfl) Try.underlying4 rfl rfl rfl hW' hg⟩

theorem over : Rows.reduceLeastRow.holds Try.pinned (OpenSpec.ofChange Rows.reduceLeastSpec) :=
  OpenClaim.holds_of_wide 5 Try.f5 rfl rfl rfl rfl rfl rfl rfl ⟨rfl, rfl, rfl, rfl, rfl⟩ rfl rfl rfl rfl rfl (by kernel_rfl) Try.func5 (by kernel_rfl)
    (of_decide_eq_true (by kernel_rfl)) (by unfold Func.isWrapper; first | (rw [if_pos (by decide +kernel)]; kernel_rfl) | (rw [if_neg (by decide +kernel)]; exact ⟨rfl, rfl⟩))
    (fun os started H enc _ => lifted os started H enc)

/-- The statement. -/
theorem proved : Rows.ReduceLeastSaid :=
  over
end Go.Proofs.Ytamfhommmogknaa.reduceLeast
