/- Quotients rounded down and up: plain laws. -/
import Derived.Test.YtkdklmkcanjjfaaDoorNumMath
namespace Go.Proofs.YtkdklmkcanjjfaaDoor
set_option linter.unusedVariables false
set_option linter.unusedSimpArgs false

theorem quo_laws (a b : Int) (hb : b ≠ 0) : (0 < b → 0 ≤ a - quoR a b false * b ∧ a - quoR a b false * b < b) ∧ (b < 0 → b < a - quoR a b false * b ∧ a - quoR a b false * b ≤ 0) ∧
    (a - quoR a b false * b = 0 → quoR a b true = quoR a b false) ∧ (a - quoR a b false * b ≠ 0 → quoR a b true = quoR a b false + 1) := by
  unfold quoR quoL quoT
  have hd := Nat.div_add_mod a.natAbs b.natAbs
  have hlt := Nat.mod_lt a.natAbs (show b.natAbs > 0 by omega)
  generalize a.natAbs / b.natAbs = q at hd hlt ⊢
  generalize a.natAbs % b.natAbs = r at hd hlt ⊢
  have e : (b.natAbs : Int) * q + r = a.natAbs := by exact_mod_cast hd
  clear hd
  by_cases ha : a < 0 <;> by_cases hb' : b < 0 <;> by_cases hr : r = 0
  all_goals simp [ha, hb', hr]
  all_goals
    first
    | rw [show (b.natAbs : Int) = -b by omega] at e
    | rw [show (b.natAbs : Int) = b by omega] at e
  all_goals
    first
    | rw [show (a.natAbs : Int) = -a by omega] at e
    | rw [show (a.natAbs : Int) = a by omega] at e
  all_goals simp only [Int.neg_mul, Int.mul_neg, Int.add_mul, Int.sub_mul, Int.mul_comm (q : Int) b, Int.one_mul, Int.neg_add] at e ⊢
  all_goals omega

/-- A quotient that is rounded lies within 64 bits, but for one. -/
theorem quo_in (a b : Int) (ha : InI a) (hb : InI b) (hb0 : b ≠ 0) (hx : ¬ (a = -9223372036854775808 ∧ b = -1)) (up : Bool) : InI (quoR a b up) := by
  unfold quoR quoL quoT
  have hd := Nat.div_add_mod a.natAbs b.natAbs
  have hlt := Nat.mod_lt a.natAbs (show b.natAbs > 0 by omega)
  obtain ⟨a1, a2⟩ := ha
  obtain ⟨b1, b2⟩ := hb
  by_cases h1 : b.natAbs = 1
  · rw [h1, Nat.div_one, Nat.mod_one]
    simp
    split <;> constructor <;> omega
  · have hq : a.natAbs / b.natAbs * 2 ≤ a.natAbs := by
      have h2 : 2 ≤ b.natAbs := by omega
      calc a.natAbs / b.natAbs * 2 ≤ a.natAbs / b.natAbs * b.natAbs := Nat.mul_le_mul_left _ h2
        _ ≤ a.natAbs := Nat.div_mul_le_self _ _
    generalize a.natAbs / b.natAbs = q at hq ⊢
    have hq' : q ≤ 4611686018427387904 := by omega
    unfold InI
    (repeat' split) <;> constructor <;> omega
theorem quo_out (b : Int) : quoR (-9223372036854775808) (-1) true = 9223372036854775808 ∧ quoR (-9223372036854775808) (-1) false = 9223372036854775808 := by decide
end Go.Proofs.YtkdklmkcanjjfaaDoor
