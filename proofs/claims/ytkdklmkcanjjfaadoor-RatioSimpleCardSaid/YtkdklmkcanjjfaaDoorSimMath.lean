/- What the reference's search for the simplest ratio comes to: plain laws. -/
import Derived.Test.YtkdklmkcanjjfaaDoorRatV
namespace Go.Proofs.YtkdklmkcanjjfaaDoor
set_option linter.unusedVariables false
set_option linter.unusedSimpArgs false
set_option maxRecDepth 100000

theorem quo_flcl {n d : Int} (d0 : 0 < d) : IsFl (quoR n d false) n d ∧ IsCl (quoR n d true) n d := by
  obtain ⟨q1, _, q3, q4⟩ := quo_laws n d (by omega)
  have q1 := q1 d0
  generalize quoR n d false = f at *
  generalize quoR n d true = c at *
  refine ⟨⟨by omega, by omega⟩, ?_⟩
  by_cases hz : n - f * d = 0
  · rw [q3 hz]; exact ⟨by omega, by omega⟩
  · rw [q4 hz]; unfold IsCl; rw [Int.add_mul, Int.one_mul]; exact ⟨by omega, by omega⟩

/-- What the search, Den by Den, comes to. -/
structure LeastK (a b c d N D : Int) : Prop where
  d1 : 1 ≤ D
  d2 : D ≤ 400
  none_ : ∀ k, 1 ≤ k → k < D → quoR (c * k) d false < quoR (a * k) b true
  some_ : quoR (a * D) b true ≤ quoR (c * D) d false
  res : (quoR (a * D) b true ≤ 0 ∧ 0 ≤ quoR (c * D) d false ∧ N = 0 ∧ D = 1) ∨ (0 < quoR (a * D) b true ∧ N = quoR (a * D) b true) ∨ (quoR (a * D) b true ≤ 0 ∧ quoR (c * D) d false < 0 ∧ N = quoR (c * D) d false)

theorem least_pos {a b c d N D : Int} (a0 : 0 < a) (b0 : 0 < b) (d0 : 0 < d) (hb : b ≤ 400) (l1 : 0 < N) (l2 : 0 < D) (l3 : a * D ≤ N * b) (l4 : N * d ≤ c * D)
    (l5 : ∀ n k : Int, 0 < k → a * k ≤ n * b → n * d ≤ c * k → N ≤ n ∧ D ≤ k) (hle : a * d ≤ c * b) : LeastK a b c d N D := by
  have hdb := (l5 a b b0 (Int.le_refl _) hle).2
  have hn : ∀ k, 1 ≤ k → quoR (a * k) b true ≤ quoR (c * k) d false → N ≤ quoR (a * k) b true ∧ D ≤ k := by
    intro k hk h
    obtain ⟨_, c1, c2⟩ := quo_flcl (n := a * k) b0
    obtain ⟨⟨f1, f2⟩, _⟩ := quo_flcl (n := c * k) d0
    generalize quoR (a * k) b true = low at *
    generalize quoR (c * k) d false = high at *
    refine l5 low k (by omega) c1 ?_
    have := Int.mul_le_mul_of_nonneg_right h (Int.le_of_lt d0)
    omega
  have h1 : quoR (a * D) b true ≤ N := by
    obtain ⟨_, c1, c2⟩ := quo_flcl (n := a * D) b0
    generalize quoR (a * D) b true = low at *
    have h : low * b < (N + 1) * b := by rw [Int.add_mul, Int.one_mul]; omega
    have := lt_of_mul b0 h
    omega
  have h2 : N ≤ quoR (c * D) d false := by
    obtain ⟨⟨f1, f2⟩, _⟩ := quo_flcl (n := c * D) d0
    generalize quoR (c * D) d false = high at *
    have h : N * d < (high + 1) * d := by rw [Int.add_mul, Int.one_mul]; omega
    have := lt_of_mul d0 h
    omega
  refine ⟨by omega, by omega, fun k hk hkd => ?_, by omega, ?_⟩
  · rcases Int.lt_or_le (quoR (c * k) d false) (quoR (a * k) b true) with h | h
    · exact h
    · have := (hn k hk h).2; omega
  · have := (hn D (by omega) (by omega)).1
    exact .inr (.inl ⟨by omega, by omega⟩)

theorem least_neg {a b c d N D : Int} (c0 : c < 0) (b0 : 0 < b) (d0 : 0 < d) (hb : b ≤ 400) (l1 : 0 < N) (l2 : 0 < D) (l3 : -c * D ≤ N * d) (l4 : N * b ≤ -a * D)
    (l5 : ∀ n k : Int, 0 < k → -c * k ≤ n * d → n * b ≤ -a * k → N ≤ n ∧ D ≤ k) (hle : a * d ≤ c * b) : LeastK a b c d (-N) D := by
  have hdb := (l5 (-a) b b0 (by rw [Int.neg_mul, Int.neg_mul]; omega) (Int.le_refl _)).2
  have hn : ∀ k, 1 ≤ k → quoR (a * k) b true ≤ quoR (c * k) d false → N ≤ -quoR (c * k) d false ∧ D ≤ k := by
    intro k hk h
    obtain ⟨_, c1, c2⟩ := quo_flcl (n := a * k) b0
    obtain ⟨⟨f1, f2⟩, _⟩ := quo_flcl (n := c * k) d0
    generalize quoR (a * k) b true = low at *
    generalize quoR (c * k) d false = high at *
    refine l5 (-high) k (by omega) ?_ ?_
    · rw [Int.neg_mul, Int.neg_mul]; omega
    · have := Int.mul_le_mul_of_nonneg_right h (Int.le_of_lt b0)
      rw [Int.neg_mul, Int.neg_mul]; omega
  rw [Int.neg_mul] at l3 l4
  have h1 : quoR (a * D) b true ≤ -N := by
    obtain ⟨_, c1, c2⟩ := quo_flcl (n := a * D) b0
    generalize quoR (a * D) b true = low at *
    have h : low * b < (-N + 1) * b := by rw [Int.add_mul, Int.one_mul, Int.neg_mul]; omega
    have := lt_of_mul b0 h
    omega
  have h2 : -N ≤ quoR (c * D) d false := by
    obtain ⟨⟨f1, f2⟩, _⟩ := quo_flcl (n := c * D) d0
    generalize quoR (c * D) d false = high at *
    have h : -N * d < (high + 1) * d := by rw [Int.add_mul, Int.one_mul, Int.neg_mul]; omega
    have := lt_of_mul d0 h
    omega
  have h3 := (hn D (by omega) (by omega)).1
  refine ⟨by omega, by omega, fun k hk hkd => ?_, by omega, .inr (.inr ⟨by omega, by omega, by omega⟩)⟩
  rcases Int.lt_or_le (quoR (c * k) d false) (quoR (a * k) b true) with h | h
  · exact h
  · have := (hn k hk h).2; omega

theorem least_mid {a b c d : Int} (a0 : a ≤ 0) (c0 : 0 ≤ c) (b0 : 0 < b) (d0 : 0 < d) : LeastK a b c d 0 1 := by
  have h1 : quoR (a * 1) b true ≤ 0 := by
    obtain ⟨_, c1, c2⟩ := quo_flcl (n := a * 1) b0
    generalize quoR (a * 1) b true = low at *
    have h : low * b < 1 * b := by omega
    have := lt_of_mul b0 h
    omega
  have h2 : 0 ≤ quoR (c * 1) d false := by
    obtain ⟨⟨f1, f2⟩, _⟩ := quo_flcl (n := c * 1) d0
    generalize quoR (c * 1) d false = high at *
    have h : 0 * d < (high + 1) * d := by rw [Int.add_mul, Int.one_mul]; omega
    have := lt_of_mul d0 h
    omega
  exact ⟨by omega, by omega, fun k h1 h2 => by omega, by omega, .inl ⟨h1, h2, rfl, rfl⟩⟩

/-- Numbers that are small, and good. -/
structure SmR (a b : Int) : Prop where
  good : goodB a b = true
  a1 : -32768 ≤ a
  a2 : a ≤ 32768
  b1 : 0 < b
  b2 : b ≤ 300
theorem SmR.in_ {a b : Int} (h : SmR a b) : InI a ∧ InI b := by
  obtain ⟨_, h1, h2, h3, h4⟩ := h
  exact ⟨⟨by omega, by omega⟩, ⟨by omega, by omega⟩⟩

theorem quot_small {n g M : Int} (h0 : g ≠ 0) (h : g ∣ n) (h1 : -M ≤ n) (h2 : n ≤ M) : -M ≤ n / g ∧ n / g ≤ M := by
  have e := Int.natAbs_ediv_of_dvd h
  have h3 : n.natAbs / g.natAbs ≤ n.natAbs := Nat.div_le_self _ _
  rw [← e] at h3
  omega
theorem sm_of_mk {n m : Int} (n1 : -32768 ≤ n) (n2 : n ≤ 32768) (m1 : -300 ≤ m) (m2 : m ≤ 300) (h : mkB n m = true) : SmR (mkN n m) (mkD n m) := by
  have hg := mk_good h
  have hd : m ≠ 0 := by unfold mkB at h; simp at h; exact h.1
  have e1 : mkN n m = n / rg n m := if_pos h
  have e2 : mkD n m = m / rg n m := if_pos h
  have q1 := quot_small (rg_ne n hd) (rg_dvd_left n m) (M := 32768) n1 n2
  have q2 := quot_small (rg_ne n hd) (rg_dvd_right n m) (M := 300) m1 m2
  have g0 := good_pos hg
  exact ⟨hg, by omega, by omega, g0, by omega⟩
theorem small_mul {a k : Int} (h1 : -32768 ≤ a) (h2 : a ≤ 32768) (k1 : 1 ≤ k) (k2 : k ≤ 400) : -13107200 ≤ a * k ∧ a * k ≤ 13107200 := by
  have h3 : a * k ≤ 32768 * k := Int.mul_le_mul_of_nonneg_right h2 (by omega)
  have h4 : -32768 * k ≤ a * k := Int.mul_le_mul_of_nonneg_right h1 (by omega)
  omega

theorem simp_least {a b c d : Int} (ha : SmR a b) (hc : SmR c d) (hx : cmpR a b c d ≤ 0) : ∃ N D, simpR a b c d = (N, D, true) ∧ LeastK a b c d N D := by
  have hg : (goodB a b && goodB c d) = true := by rw [ha.good, hc.good]; rfl
  have hle := (cmp_le hg).1 hx
  have b0 := ha.b1
  have d0 := hc.b1
  have hb := ha.b2
  obtain ⟨s1, s2⟩ := sign_of b0 d0 hle
  unfold simpR
  rw [if_pos ⟨hg, hx⟩]
  by_cases hm : a ≤ 0 ∧ 0 ≤ c
  · rw [if_pos hm]
    exact ⟨0, 1, rfl, least_mid hm.1 hm.2 b0 d0⟩
  · rw [if_neg hm]
    by_cases hp : 0 < a
    · rw [if_pos hp]
      have hB := chain_btw hp b0 (s1 hp) d0 hle
      obtain ⟨l1, l2, l3, l4, l5⟩ := btw_law hB hp b0 (s1 hp) d0 hle
      exact ⟨_, _, rfl, least_pos hp b0 d0 (by omega) l1 l2 l3 l4 l5 hle⟩
    · have hc0 : c < 0 := by omega
      have ha0 := s2 hc0
      rw [if_neg hp]
      have f1 : fitB (-a) = true := fitB_iff.2 ⟨by have := ha.a2; omega, by have := ha.a1; omega⟩
      have f2 : fitB (-c) = true := fitB_iff.2 ⟨by have := hc.a2; omega, by have := hc.a1; omega⟩
      rw [f1, f2, if_pos (show (true && true) = true from rfl)]
      have hle2 : -c * b ≤ -a * d := by rw [Int.neg_mul, Int.neg_mul]; omega
      have hB := chain_btw (a := -c) (b := d) (c := -a) (d := b) (by omega) d0 (by omega) b0 hle2
      obtain ⟨l1, l2, l3, l4, l5⟩ := btw_law hB (by omega) d0 (by omega) b0 hle2
      exact ⟨_, _, rfl, least_neg hc0 b0 d0 (by omega) l1 l2 l3 l4 l5 hle⟩
end Go.Proofs.YtkdklmkcanjjfaaDoor
