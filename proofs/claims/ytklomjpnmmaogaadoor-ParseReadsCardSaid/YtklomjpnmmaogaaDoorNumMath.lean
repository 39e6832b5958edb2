/- Plain words for numbers of 128 bits: 'IsW n h l z' says that the sign n and the two halves h, l are the number z. -/
import Derived.Test.YtklomjpnmmaogaaDoorMem
import Derived.WalkKit
import Derived.Lib.Mul64
import Derived.Deep.Draws
namespace Go.Proofs.YtklomjpnmmaogaaDoor
open Go Go.RowKit
set_option linter.unusedVariables false
set_option linter.unusedSimpArgs false
set_option maxRecDepth 100000

/-- 2^64, behind a name. -/
def M64 : Int := 18446744073709551616

structure IsW (n : Bool) (h l z : Int) : Prop where
  h0 : 0 ≤ h
  h1 : h < 18446744073709551616
  l0 : 0 ≤ l
  l1 : l < 18446744073709551616
  neg : n = decide (z < 0)
  mag : z = if n = true then -(h * 18446744073709551616 + l) else h * 18446744073709551616 + l

theorem IsW.cases_ {n : Bool} {h l z : Int} (k : IsW n h l z) : (n = true ∧ z < 0 ∧ z = -(h * 18446744073709551616 + l)) ∨ (n = false ∧ 0 ≤ z ∧ z = h * 18446744073709551616 + l) := by
  have hn := k.neg; have hm := k.mag
  cases n with
  | true => have : z < 0 := by simpa using hn.symm
            exact .inl ⟨rfl, this, by simpa using hm⟩
  | false => have : ¬ z < 0 := by simpa using hn.symm
             exact .inr ⟨rfl, by omega, by simpa using hm⟩

theorem IsW.mk_ {n : Bool} {h l z : Int} (h0 : 0 ≤ h) (h1 : h < 18446744073709551616) (l0 : 0 ≤ l) (l1 : l < 18446744073709551616)
    (k : (n = true ∧ z < 0 ∧ z = -(h * 18446744073709551616 + l)) ∨ (n = false ∧ 0 ≤ z ∧ z = h * 18446744073709551616 + l)) : IsW n h l z := by
  rcases k with ⟨rfl, a, b⟩ | ⟨rfl, a, b⟩
  · exact ⟨h0, h1, l0, l1, by simpa using a, by simpa using b⟩
  · exact ⟨h0, h1, l0, l1, by simpa using a, by simpa using b⟩

def InU (x : Int) : Prop := 0 ≤ x ∧ x < 18446744073709551616
def InI (x : Int) : Prop := -9223372036854775808 ≤ x ∧ x ≤ 9223372036854775807

/-- -1, 0 or 1. -/
def cmp3 (x y : Int) : Int := if x < y then -1 else if x = y then 0 else 1

/-- The first of two that is not 0. -/
def or2 (x y : Int) : Int := if x = 0 then y else x

theorem u64_or_zero (h l : Int) (h0 : 0 ≤ h) (h1 : h < 18446744073709551616) (l0 : 0 ≤ l) (l1 : l < 18446744073709551616) : (bits .or .u64 h l != 0) = decide (0 < h + l) := by
  rw [u64_or h l h0 h1 l0 l1]
  by_cases hz : h.toNat ||| l.toNat = 0
  · have := Nat.or_eq_zero_iff.1 hz
    rw [hz, decide_eq_false (by omega)]; rfl
  · have : ¬ (h.toNat = 0 ∧ l.toNat = 0) := fun k => hz (Nat.or_eq_zero_iff.2 k)
    rw [decide_eq_true (by omega), bne_iff_ne]
    omega

/-- A number of 64 bits and 'yes'; or 0, and 'no'. -/
def fitN (z : Int) : Int := if -9223372036854775808 ≤ z ∧ z ≤ 9223372036854775807 then z else 0
def fitB (z : Int) : Bool := decide (-9223372036854775808 ≤ z ∧ z ≤ 9223372036854775807)
theorem fit_yes {v z : Int} (hz : -9223372036854775808 ≤ z ∧ z ≤ 9223372036854775807) (h : v = z) : Ending.returned (.tuple #[.int .i64 v, .bool true]) = .returned (.tuple #[.int .i64 (fitN z), .bool (fitB z)]) := by
  rw [fitN, fitB, if_pos hz, decide_eq_true hz, h]
theorem fit_no {z : Int} (hz : ¬ (-9223372036854775808 ≤ z ∧ z ≤ 9223372036854775807)) : Ending.returned (.tuple #[.int .i64 0, .bool false]) = .returned (.tuple #[.int .i64 (fitN z), .bool (fitB z)]) := by
  rw [fitN, fitB, if_neg hz, decide_eq_false hz]

/-- The distance from 0. -/
def mag (a : Int) : Int := (a.natAbs : Int)
/-- The quotient, cut off; what is left. -/
def quoT (a b : Int) : Int := if (decide (a < 0) != decide (b < 0)) = true then -((a.natAbs / b.natAbs : Nat) : Int) else ((a.natAbs / b.natAbs : Nat) : Int)
def quoL (a b : Int) : Bool := decide (a.natAbs % b.natAbs ≠ 0)
/-- The quotient, rounded down, or up. -/
def quoR (a b : Int) (up : Bool) : Int :=
  if (quoL a b && ((decide (a < 0) != decide (b < 0)) != up)) = true then (if (decide (a < 0) != decide (b < 0)) = true then quoT a b - 1 else quoT a b + 1) else quoT a b

end Go.Proofs.YtklomjpnmmaogaaDoor
