/- The simplest ratio between two: plain laws. -/
import Derived.Test.YtkdklmkcanjjfaaDoorRatLaw
namespace Go.Proofs.YtkdklmkcanjjfaaDoor
set_option linter.unusedVariables false
set_option linter.unusedSimpArgs false
set_option maxRecDepth 100000

/-- f is n by d rounded down; c, rounded up. -/
def IsFl (f n d : Int) : Prop := f * d ≤ n ∧ n < f * d + d
def IsCl (c n d : Int) : Prop := n ≤ c * d ∧ c * d < n + d
/-- The parts of the chain between two ratios. -/
inductive Btw : Int → Int → Int → Int → List Int → Prop
  | done {n1 d1 n2 d2 : Int} (c f2 : Int) : IsCl c n1 d1 → IsFl f2 n2 d2 → c ≤ f2 → Btw n1 d1 n2 d2 [c]
  | step {n1 d1 n2 d2 : Int} (q c f2 : Int) (r : List Int) : IsFl q n1 d1 → IsCl c n1 d1 → IsFl f2 n2 d2 → f2 < c → Btw d2 (n2 - q * d2) d1 (n1 - q * d1) r → Btw n1 d1 n2 d2 (q :: r)
/-- What a chain is worth. -/
def cf : List Int → Int × Int
  | [] => (1, 0)
  | x :: r => (x * (cf r).1 + (cf r).2, (cf r).1)

theorem lt_of_mul {a b d : Int} (hd : 0 < d) (h : a * d < b * d) : a < b := Int.lt_of_mul_lt_mul_right h (Int.le_of_lt hd)
theorem le_of_mul {a b d : Int} (hd : 0 < d) (h : a * d ≤ b * d) : a ≤ b := Int.le_of_mul_le_mul_right h hd
/-- What a step's parts are. -/
theorem step_pos {n1 d1 n2 d2 q c f2 : Int} (hq : IsFl q n1 d1) (hc : IsCl c n1 d1) (hf : IsFl f2 n2 d2) (hlt : f2 < c) (a1 : 0 < n1) (a2 : 0 < d1) (a3 : 0 < n2) (a4 : 0 < d2) (hle : n1 * d2 ≤ n2 * d1) :
    0 ≤ q ∧ 0 < n1 - q * d1 ∧ 0 < n2 - q * d2 ∧ d2 * (n1 - q * d1) ≤ d1 * (n2 - q * d2) := by
  obtain ⟨q1, q2⟩ := hq
  obtain ⟨c1, c2⟩ := hc
  obtain ⟨f1, f3⟩ := hf
  have hq0 : 0 ≤ q := by
    have h : 0 * d1 < (q + 1) * d1 := by grind
    have := lt_of_mul a2 h
    omega
  have h4 : d2 * (n1 - q * d1) ≤ d1 * (n2 - q * d2) := by grind
  have hn1 : 0 < n1 - q * d1 := by
    by_cases h : n1 - q * d1 = 0
    · exfalso
      have e : n1 = q * d1 := by omega
      have h5 : c * d1 < (q + 1) * d1 := by grind
      have h6 := lt_of_mul a2 h5
      have h7 : (q * d2) * d1 ≤ n2 * d1 := by
        rw [e, Int.mul_right_comm] at hle
        exact hle
      have h8 := le_of_mul a2 h7
      have h9 : q * d2 < (f2 + 1) * d2 := by grind
      have := lt_of_mul a4 h9
      omega
    · omega
  refine ⟨hq0, hn1, ?_, h4⟩
  have h5 : 0 < d2 * (n1 - q * d1) := Int.mul_pos a4 hn1
  have h6 : 0 * d1 < (n2 - q * d2) * d1 := by grind
  exact lt_of_mul a2 h6
theorem btw_law {n1 d1 n2 d2 : Int} {L : List Int} (h : Btw n1 d1 n2 d2 L) : 0 < n1 → 0 < d1 → 0 < n2 → 0 < d2 → n1 * d2 ≤ n2 * d1 →
    0 < (cf L).1 ∧ 0 < (cf L).2 ∧ n1 * (cf L).2 ≤ (cf L).1 * d1 ∧ (cf L).1 * d2 ≤ n2 * (cf L).2 ∧ (∀ n d : Int, 0 < d → n1 * d ≤ n * d1 → n * d2 ≤ n2 * d → (cf L).1 ≤ n ∧ (cf L).2 ≤ d) := by
  induction h with
  | @done n1 d1 n2 d2 c f2 hc hf hle =>
    intro a1 a2 a3 a4 _
    obtain ⟨c1, c2⟩ := hc
    obtain ⟨f1, f3⟩ := hf
    have e1 : (cf [c]).1 = c := by simp [cf]
    have e2 : (cf [c]).2 = 1 := by simp [cf]
    rw [e1, e2]
    have hc0 : 0 < c := by
      have h : 0 * d1 < c * d1 := by omega
      exact lt_of_mul a2 h
    refine ⟨hc0, by omega, by omega, ?_, ?_⟩
    · have := Int.mul_le_mul_of_nonneg_right hle (Int.le_of_lt a4); omega
    · intro n d h0 h1 h2
      refine ⟨?_, by omega⟩
      have h3 : n1 * 1 ≤ n1 * d := Int.mul_le_mul_of_nonneg_left (by omega) (Int.le_of_lt a1)
      have h4 : (c - 1) * d1 < n * d1 := by grind
      have := lt_of_mul a2 h4
      omega
  | @step n1 d1 n2 d2 q c f2 r hq hc hf hlt _ ih =>
    intro a1 a2 a3 a4 hle
    obtain ⟨hq0, p1, p2, p3⟩ := step_pos hq hc hf hlt a1 a2 a3 a4 hle
    obtain ⟨i1, i2, i3, i4, i5⟩ := ih a4 p2 a2 p1 p3
    have e1 : (cf (q :: r)).1 = q * (cf r).1 + (cf r).2 := rfl
    have e2 : (cf (q :: r)).2 = (cf r).1 := rfl
    rw [e1, e2]
    generalize (cf r).1 = N at *
    generalize (cf r).2 = D at *
    have hqN : 0 ≤ q * N := Int.mul_nonneg hq0 (Int.le_of_lt i1)
    refine ⟨by omega, i1, by grind, by grind, ?_⟩
    intro n d h0 h1 h2
    have he : 0 < n - q * d := by
      have h3 : 0 < d * (n1 - q * d1) := Int.mul_pos h0 p1
      have h4 : 0 * d1 < (n - q * d) * d1 := by grind
      exact lt_of_mul a2 h4
    obtain ⟨j1, j2⟩ := i5 d (n - q * d) he (by grind) (by grind)
    refine ⟨?_, j1⟩
    have h5 : q * N ≤ q * d := Int.mul_le_mul_of_nonneg_left j1 hq0
    omega
/-- There is such a chain. -/
theorem btw_ex : ∀ (k : Nat) (n1 d1 n2 d2 : Int), (d1 + d2).toNat ≤ k → 0 < n1 → 0 < d1 → 0 < n2 → 0 < d2 → n1 * d2 ≤ n2 * d1 → ∃ L, Btw n1 d1 n2 d2 L
  | 0, n1, d1, n2, d2, hk, _, a2, _, a4, _ => by omega
  | k + 1, n1, d1, n2, d2, hk, a1, a2, a3, a4, hle => by
    have hfl : ∀ n d : Int, 0 < d → IsFl (n / d) n d := by
      intro n d hd
      have h1 := Int.ediv_mul_le n (show d ≠ 0 by omega)
      have h2 := Int.lt_ediv_add_one_mul_self n hd
      exact ⟨h1, by rw [Int.add_mul, Int.one_mul] at h2; exact h2⟩
    have hcl : IsCl (-((-n1) / d1)) n1 d1 := by
      obtain ⟨h1, h2⟩ := hfl (-n1) d1 a2
      exact ⟨by rw [Int.neg_mul]; omega, by rw [Int.neg_mul]; omega⟩
    by_cases h : -((-n1) / d1) ≤ n2 / d2
    · exact ⟨_, .done _ _ hcl (hfl n2 d2 a4) h⟩
    · obtain ⟨hq0, p1, p2, p3⟩ := step_pos (hfl n1 d1 a2) hcl (hfl n2 d2 a4) (by omega) a1 a2 a3 a4 hle
      have hb1 := (hfl n1 d1 a2).2
      have hb2 : n2 - n1 / d1 * d2 < d2 ∨ True := .inr trivial
      have hx : n2 / d2 = n1 / d1 := by
        have hcf : -((-n1) / d1) ≤ n1 / d1 + 1 := by
          obtain ⟨g1, g2⟩ := hcl
          have h3 : -((-n1) / d1) * d1 < (n1 / d1 + 2) * d1 := by
            have := (hfl n1 d1 a2).2
            generalize -((-n1) / d1) * d1 = X at *
            grind
          have := lt_of_mul a2 h3
          omega
        have hge : n1 / d1 ≤ n2 / d2 := by
          have h3 : (n1 / d1) * d2 * d1 ≤ n2 * d1 := by
            have := (hfl n1 d1 a2).1
            have h4 := Int.mul_le_mul_of_nonneg_right this (Int.le_of_lt a4)
            grind
          have h5 := le_of_mul a2 h3
          exact (Int.le_ediv_iff_mul_le a4).2 h5
        omega
      have hb3 : n2 - n1 / d1 * d2 < d2 := by
        have := (hfl n2 d2 a4).2
        rw [hx] at this; omega
      obtain ⟨r, hr⟩ := btw_ex k d2 (n2 - n1 / d1 * d2) d1 (n1 - n1 / d1 * d1) (by omega) a4 p2 a2 p1 p3
      exact ⟨_, .step _ _ _ r (hfl n1 d1 a2) hcl (hfl n2 d2 a4) (by omega) hr⟩
theorem cf_coprime : ∀ L : List Int, Nat.gcd (cf L).1.natAbs (cf L).2.natAbs = 1
  | [] => by simp [cf]
  | x :: r => by
    have ih := cf_coprime r
    show Nat.gcd (x * (cf r).1 + (cf r).2).natAbs (cf r).1.natAbs = 1
    have h : Int.gcd (x * (cf r).1 + (cf r).2) (cf r).1 = Int.gcd (cf r).1 (cf r).2 := by
      rw [Int.gcd_comm, Int.add_comm]
      exact Int.gcd_add_mul_right_right _ _ _ 
    exact h.trans ih
/-- Each rest of a chain is worth something between 0 and M. -/
def Fits (M : Int) (L : List Int) : Prop := ∀ k : Nat, 0 ≤ (cf (L.drop k)).1 ∧ (cf (L.drop k)).1 ≤ M ∧ 0 ≤ (cf (L.drop k)).2 ∧ (cf (L.drop k)).2 ≤ M
theorem fits_nil {M : Int} (h : 1 ≤ M) : Fits M [] := by intro k; simp [cf]; omega
theorem fits_cons {M x : Int} {r : List Int} (h : Fits M r) (h1 : 0 ≤ (cf (x :: r)).1) (h2 : (cf (x :: r)).1 ≤ M) (h3 : 0 ≤ (cf (x :: r)).2) (h4 : (cf (x :: r)).2 ≤ M) : Fits M (x :: r) := by
  intro k
  match k with
  | 0 => exact ⟨h1, h2, h3, h4⟩
  | k + 1 => exact h k
theorem btw_fits {M : Int} (hM : 1 ≤ M) {n1 d1 n2 d2 : Int} {L : List Int} (h : Btw n1 d1 n2 d2 L) : 0 < n1 → 0 < d1 → 0 < n2 → 0 < d2 → n1 * d2 ≤ n2 * d1 → n1 ≤ M → d1 ≤ M → n2 ≤ M → d2 ≤ M → Fits M L ∧ (∀ x ∈ L, 0 ≤ x ∧ x ≤ M) := by
  induction h with
  | @done n1 d1 n2 d2 c f2 hc hf hle =>
    intro a1 a2 a3 a4 hle2 m1 m2 m3 m4
    have hl := btw_law (.done c f2 hc hf hle) a1 a2 a3 a4 hle2
    obtain ⟨l1, l2, l3, l4, l5⟩ := hl
    have l6 := l5 n1 d1 a2 (by omega) hle2
    have e1 : (cf [c]).1 = c := by simp [cf]
    refine ⟨fits_cons (fits_nil hM) (by omega) (by omega) (by omega) (by omega), ?_⟩
    intro x hx
    simp at hx
    subst hx
    omega
  | @step n1 d1 n2 d2 q c f2 r hq hc hf hlt hb ih =>
    intro a1 a2 a3 a4 hle m1 m2 m3 m4
    obtain ⟨hq0, p1, p2, p3⟩ := step_pos hq hc hf hlt a1 a2 a3 a4 hle
    have hl := btw_law (.step q c f2 r hq hc hf hlt hb) a1 a2 a3 a4 hle
    obtain ⟨l1, l2, l3, l4, l5⟩ := hl
    have l6 := l5 n1 d1 a2 (by omega) hle
    have hqd1 : 0 ≤ q * d1 := Int.mul_nonneg hq0 (by omega)
    have hqd2 : 0 ≤ q * d2 := Int.mul_nonneg hq0 (by omega)
    obtain ⟨i1, i2⟩ := ih a4 p2 a2 p1 p3 m4 (by omega) m2 (by omega)
    refine ⟨fits_cons i1 (by omega) (by omega) (by omega) (by omega), ?_⟩
    intro x hx
    rcases List.mem_cons.1 hx with rfl | hx
    · refine ⟨hq0, ?_⟩
      have : x * 1 ≤ x * d1 := Int.mul_le_mul_of_nonneg_left (by omega) hq0
      omega
    · exact i2 x hx
/-- A chain is short. -/
theorem next_le {n1 d1 n2 d2 q c f2 : Int} (hq : IsFl q n1 d1) (hc : IsCl c n1 d1) (hf : IsFl f2 n2 d2) (hlt : f2 < c) (a2 : 0 < d1) (a4 : 0 < d2) : n2 - q * d2 ≤ d2 := by
  obtain ⟨q1, q2⟩ := hq
  obtain ⟨c1, c2⟩ := hc
  obtain ⟨f1, f3⟩ := hf
  have h1 : c * d1 < (q + 2) * d1 := by grind
  have h2 := lt_of_mul a2 h1
  have h3 : f2 * d2 ≤ q * d2 := Int.mul_le_mul_of_nonneg_right (by omega) (Int.le_of_lt a4)
  omega
theorem btw_ones {n1 d1 n2 d2 : Int} {L : List Int} (h : Btw n1 d1 n2 d2 L) : 0 < n1 → 0 < d1 → 0 < n2 → 0 < d2 → n1 * d2 ≤ n2 * d1 → d1 ≤ n1 → ∀ x ∈ L, 1 ≤ x := by
  induction h with
  | @done n1 d1 n2 d2 c f2 hc hf hle =>
    intro a1 a2 a3 a4 hle2 hd x hx
    simp at hx
    subst hx
    have h : 0 * d1 < x * d1 := by have := hc.1; omega
    have := lt_of_mul a2 h
    omega
  | @step n1 d1 n2 d2 q c f2 r hq hc hf hlt hb ih =>
    intro a1 a2 a3 a4 hle hd x hx
    obtain ⟨hq0, p1, p2, p3⟩ := step_pos hq hc hf hlt a1 a2 a3 a4 hle
    rcases List.mem_cons.1 hx with rfl | hx
    · have h : 1 * d1 < (x + 1) * d1 := by have := hq.2; grind
      have := lt_of_mul a2 h
      omega
    · exact ih a4 p2 a2 p1 p3 (next_le hq hc hf hlt a2 a4) x hx
theorem cf_nonneg : ∀ L : List Int, (∀ x ∈ L, 1 ≤ x) → 1 ≤ (cf L).1 ∧ 0 ≤ (cf L).2
  | [], _ => by simp [cf]
  | x :: r, h => by
    have ih := cf_nonneg r (fun y hy => h y (by simp [hy]))
    have hx := h x (by simp)
    have h1 : 1 * (cf r).1 ≤ x * (cf r).1 := Int.mul_le_mul_of_nonneg_right hx (by omega)
    show 1 ≤ x * (cf r).1 + (cf r).2 ∧ 0 ≤ (cf r).1
    omega
theorem cf_grows : ∀ L : List Int, (∀ x ∈ L, 1 ≤ x) → ((2 ^ (L.length / 2) : Nat) : Int) ≤ (cf L).1
  | [], _ => by simp [cf]
  | [x], h => by
    have hx := h x (by simp)
    simp [cf]; omega
  | x :: y :: r, h => by
    have ih := cf_grows r (fun z hz => h z (by simp [hz]))
    have hn := cf_nonneg r (fun z hz => h z (by simp [hz]))
    have hx := h x (by simp)
    have hy := h y (by simp)
    have h1 : 1 * (cf r).1 ≤ y * (cf r).1 := Int.mul_le_mul_of_nonneg_right hy (by omega)
    have e : (cf (x :: y :: r)).1 = x * (y * (cf r).1 + (cf r).2) + (cf r).1 := rfl
    have h2 : 1 * (y * (cf r).1 + (cf r).2) ≤ x * (y * (cf r).1 + (cf r).2) := Int.mul_le_mul_of_nonneg_right hx (by omega)
    have e2 : (x :: y :: r).length / 2 = r.length / 2 + 1 := by simp only [List.length_cons]; omega
    rw [e, e2, Nat.pow_succ]
    have : ((2 ^ (r.length / 2) * 2 : Nat) : Int) = ((2 ^ (r.length / 2) : Nat) : Int) * 2 := by simp
    omega
theorem ones_len {L : List Int} (h : ∀ x ∈ L, 1 ≤ x) (hM : (cf L).1 ≤ 9223372036854775807) : L.length ≤ 127 := by
  have h1 := cf_grows L h
  have h2 : 2 ^ (L.length / 2) < 2 ^ 63 := by
    have : ((2 ^ (L.length / 2) : Nat) : Int) ≤ 9223372036854775807 := by omega
    have h3 : (2 : Nat) ^ 63 = 9223372036854775808 := by decide
    omega
  have h3 := (Nat.pow_lt_pow_iff_right (by omega : 1 < 2)).1 h2
  omega
theorem btw_len {n1 d1 n2 d2 : Int} {L : List Int} (h : Btw n1 d1 n2 d2 L) (a1 : 0 < n1) (a2 : 0 < d1) (a3 : 0 < n2) (a4 : 0 < d2) (hle : n1 * d2 ≤ n2 * d1) (hf : Fits 9223372036854775807 L) : L.length ≤ 128 := by
  cases h with
  | done c f2 hc hf hle => simp
  | step q c f2 r hq hc hf2 hlt hb =>
    obtain ⟨hq0, p1, p2, p3⟩ := step_pos hq hc hf2 hlt a1 a2 a3 a4 hle
    have h1 := btw_ones hb a4 p2 a2 p1 p3 (next_le hq hc hf2 hlt a2 a4)
    have h2 := ones_len h1 (hf 1).2.1
    simp only [List.length_cons]; omega
end Go.Proofs.YtkdklmkcanjjfaaDoor
