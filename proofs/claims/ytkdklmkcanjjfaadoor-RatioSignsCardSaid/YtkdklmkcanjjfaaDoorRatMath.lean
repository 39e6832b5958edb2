/- Ratios: plain laws. -/
import Derived.Test.YtkdklmkcanjjfaaDoorQuo
namespace Go.Proofs.YtkdklmkcanjjfaaDoor
set_option linter.unusedVariables false
set_option linter.unusedSimpArgs false
set_option maxRecDepth 100000

/-- The greatest common divisor. -/
def gd (a b : Int) : Int := ((Nat.gcd a.natAbs b.natAbs : Nat) : Int)
theorem gd_nonneg (a b : Int) : 0 ≤ gd a b := by unfold gd; omega
theorem gd_comm (a b : Int) : gd a b = gd b a := by unfold gd; rw [Nat.gcd_comm]
theorem gd_dvd_left (a b : Int) : gd a b ∣ a := by unfold gd; exact Int.ofNat_dvd_left.2 (Nat.gcd_dvd_left _ _)
theorem gd_dvd_right (a b : Int) : gd a b ∣ b := by unfold gd; exact Int.ofNat_dvd_left.2 (Nat.gcd_dvd_right _ _)
theorem gd_pos (a : Int) {b : Int} (h : b ≠ 0) : 0 < gd a b := by
  unfold gd
  have := Nat.gcd_pos_of_pos_right a.natAbs (show 0 < b.natAbs by omega)
  omega
theorem gd_le (a : Int) {b : Int} (h : b ≠ 0) : gd a b ≤ b.natAbs := by
  unfold gd
  have := Nat.gcd_le_right a.natAbs (show 0 < b.natAbs by omega)
  omega
theorem gd_le' {a : Int} (b : Int) (h : a ≠ 0) : gd a b ≤ a.natAbs := by rw [gd_comm]; exact gd_le b h
/-- Where the divisor doesn't fit into 64 bits. -/
theorem gd_wide {a b : Int} (ha : InI a) (hb : InI b) (h0 : b ≠ 0) (h : ¬ (-9223372036854775808 ≤ gd a b ∧ gd a b ≤ 9223372036854775807)) : b = -9223372036854775808 ∧ (a = 0 ∨ a = -9223372036854775808) := by
  have h1 := gd_pos a h0
  have h2 := gd_le a h0
  obtain ⟨a1, a2⟩ := ha
  obtain ⟨b1, b2⟩ := hb
  refine ⟨by omega, ?_⟩
  by_cases h3 : a = 0
  · exact .inl h3
  · have := gd_le' b h3
    exact .inr (by omega)

def goodB (n d : Int) : Bool := decide (0 < d ∧ gd n d = 1)
def rg (n d : Int) : Int := if d < 0 then -gd n d else gd n d
theorem rg_ne (n : Int) {d : Int} (h : d ≠ 0) : rg n d ≠ 0 := by have := gd_pos n h; unfold rg; split <;> omega
theorem rg_dvd_left (n d : Int) : rg n d ∣ n := by unfold rg; split; exact (Int.neg_dvd).2 (gd_dvd_left n d); exact gd_dvd_left n d
theorem rg_dvd_right (n d : Int) : rg n d ∣ d := by unfold rg; split; exact (Int.neg_dvd).2 (gd_dvd_right n d); exact gd_dvd_right n d
def mkB (n d : Int) : Bool := decide (d ≠ 0) && (fitB (n / rg n d) && fitB (d / rg n d))
def mkN (n d : Int) : Int := if mkB n d = true then n / rg n d else 0
def mkD (n d : Int) : Int := if mkB n d = true then d / rg n d else 0
theorem fitB_iff {z : Int} : fitB z = true ↔ InI z := by unfold fitB InI; simp
theorem fitN_of {z : Int} (h : InI z) : fitN z = z := if_pos h
theorem fitN_in (z : Int) : InI (fitN z) := by unfold fitN InI; split <;> omega
theorem fitN_yes {z : Int} (h : fitB z = true) : fitN z = z := fitN_of (fitB_iff.1 h)

theorem quoR_exact {a g : Int} (h0 : g ≠ 0) (h : g ∣ a) (up : Bool) : quoR a g up = a / g := by
  obtain ⟨k, rfl⟩ := h
  rw [Int.mul_ediv_cancel_left k h0]
  have e1 : (g * k).natAbs % g.natAbs = 0 := by rw [Int.natAbs_mul]; exact Nat.mul_mod_right _ _
  have e2 : (g * k).natAbs / g.natAbs = k.natAbs := by rw [Int.natAbs_mul]; exact Nat.mul_div_cancel_left _ (by omega)
  unfold quoR quoL quoT
  rw [e1, e2]
  simp only [ne_eq, not_true_eq_false, decide_false, Bool.false_and, Bool.false_eq_true, if_false]
  rcases Int.lt_or_gt_of_ne h0 with hg | hg
  · rcases Int.lt_trichotomy k 0 with hk | hk | hk
    · have := Int.mul_pos_of_neg_of_neg hg hk
      simp [show ¬ g * k < 0 by omega, hg]; omega
    · subst hk; simp
    · have := Int.mul_neg_of_neg_of_pos hg hk
      simp [this, hg]; omega
  · rcases Int.lt_trichotomy k 0 with hk | hk | hk
    · have := Int.mul_neg_of_pos_of_neg hg hk
      simp [this, show ¬ g < 0 by omega]; omega
    · subst hk; simp
    · have := Int.mul_pos hg hk
      simp [show ¬ g * k < 0 by omega, show ¬ g < 0 by omega]; omega

/-- A made ratio is good. -/
theorem mk_good {n d : Int} (h : mkB n d = true) : goodB (mkN n d) (mkD n d) = true := by
  have hd : d ≠ 0 := by unfold mkB at h; simp at h; exact h.1
  unfold mkN mkD
  rw [if_pos h, if_pos h]
  have h0 := gd_pos n hd
  have e1 : ∀ z : Int, z / rg n d = if d < 0 then -(z / gd n d) else z / gd n d := by
    intro z; unfold rg; split
    · exact Int.ediv_neg _ _
    · rfl
  have g1 : Nat.gcd (n / gd n d).natAbs (d / gd n d).natAbs = 1 := by
    have hn := Int.natAbs_ediv_of_dvd (gd_dvd_left n d)
    have hdd := Int.natAbs_ediv_of_dvd (gd_dvd_right n d)
    rw [hn, hdd]
    have : (gd n d).natAbs = Nat.gcd n.natAbs d.natAbs := by unfold gd; omega
    rw [this]
    rw [Nat.gcd_div (Nat.gcd_dvd_left _ _) (Nat.gcd_dvd_right _ _)]
    exact Nat.div_self (by unfold gd at h0; omega)
  unfold goodB
  rw [decide_eq_true_iff]
  have hq : gd n d ∣ d := gd_dvd_right n d
  have hm := Int.ediv_mul_cancel hq
  rw [e1, e1]
  constructor
  · split
    · rename_i hlt
      have : d / gd n d < 0 := Int.ediv_neg_of_neg_of_pos hlt h0
      omega
    · have : 0 < d / gd n d := Int.ediv_pos_of_pos_of_dvd (by omega) (by omega) hq
      omega
  · have hx : ∀ a b : Int, Nat.gcd a.natAbs b.natAbs = 1 → gd a b = 1 := fun a b h => by unfold gd; rw [h]; rfl
    split
    · exact hx _ _ (by rw [Int.natAbs_neg, Int.natAbs_neg, g1])
    · exact hx _ _ g1
end Go.Proofs.YtkdklmkcanjjfaaDoor
