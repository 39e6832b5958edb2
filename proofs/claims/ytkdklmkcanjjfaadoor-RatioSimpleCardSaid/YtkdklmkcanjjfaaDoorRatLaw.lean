/- Plain laws of ratios: what is taken away is added again; either order; whole numbers below and above. -/
import Derived.Test.YtkdklmkcanjjfaaDoorRatK
namespace Go.Proofs.YtkdklmkcanjjfaaDoor
set_option linter.unusedVariables false
set_option linter.unusedSimpArgs false
set_option maxRecDepth 100000

theorem mk_den {n d : Int} (h : mkB n d = true) : d ≠ 0 := by unfold mkB at h; simp at h; exact h.1
theorem mk_val {n d : Int} (h : mkB n d = true) : mkN n d * d = n * mkD n d := by
  have hd := mk_den h
  have g0 := rg_ne n hd
  obtain ⟨p, hp⟩ := rg_dvd_left n d
  obtain ⟨q, hq⟩ := rg_dvd_right n d
  unfold mkN mkD
  rw [if_pos h, if_pos h]
  generalize rg n d = g at *
  subst hp
  subst hq
  rw [Int.mul_ediv_cancel_left p g0, Int.mul_ediv_cancel_left q g0]
  grind
theorem good_unique {n d n' d' : Int} (h : goodB n d = true) (h' : goodB n' d' = true) (e : n * d' = n' * d) : n = n' ∧ d = d' := by
  have p0 := good_pos h
  have p1 := good_pos h'
  have c1 : Nat.Coprime d.natAbs n.natAbs := by
    have := good_gd h; unfold gd at this
    show Nat.gcd d.natAbs n.natAbs = 1
    rw [Nat.gcd_comm]; omega
  have c2 : Nat.Coprime d'.natAbs n'.natAbs := by
    have := good_gd h'; unfold gd at this
    show Nat.gcd d'.natAbs n'.natAbs = 1
    rw [Nat.gcd_comm]; omega
  have en : n.natAbs * d'.natAbs = n'.natAbs * d.natAbs := by rw [← Int.natAbs_mul, ← Int.natAbs_mul, e]
  have d1 : d.natAbs ∣ d'.natAbs := c1.dvd_of_dvd_mul_left ⟨n'.natAbs, by rw [en, Nat.mul_comm]⟩
  have d2 : d'.natAbs ∣ d.natAbs := c2.dvd_of_dvd_mul_left ⟨n.natAbs, by rw [← en, Nat.mul_comm]⟩
  have ed : d = d' := by have := Nat.dvd_antisymm d1 d2; omega
  subst ed
  exact ⟨Int.eq_of_mul_eq_mul_right (by omega) e, rfl⟩
theorem add_good {a b c d : Int} (h : addB a b c d = true) : goodB a b = true ∧ goodB c d = true ∧ goodB (addN a b c d) (addD a b c d) = true ∧ addN a b c d * (b * d) = (a * d + c * b) * addD a b c d := by
  unfold addB at h
  rw [Bool.and_eq_true] at h
  obtain ⟨h1, h2⟩ := h
  have hv := mk_val h2
  have hg := mk_good h2
  have e1 : addN a b c d = mkN (addX a b c d + addY a b c d) (addM a b c d) := by unfold addN; rw [if_pos h1]
  have e2 : addD a b c d = mkD (addX a b c d + addY a b c d) (addM a b c d) := by unfold addD; rw [if_pos h1]
  rw [← e1, ← e2] at hv hg
  unfold addOk at h1
  simp only [Bool.and_eq_true] at h1
  refine ⟨h1.1.1, h1.1.2, hg, ?_⟩
  have d0 := good_pos h1.1.2
  have g0 := gd_pos b (show d ≠ 0 by omega)
  obtain ⟨p, hp⟩ := gd_dvd_left b d
  obtain ⟨q, hq⟩ := gd_dvd_right b d
  unfold addX addY addM at hv
  generalize gd b d = g at *
  have ep : b / g = p := by rw [hp]; exact Int.mul_ediv_cancel_left p (by omega)
  have eq : d / g = q := by rw [hq]; exact Int.mul_ediv_cancel_left q (by omega)
  rw [ep, eq] at hv
  generalize addN a b c d = N at *
  generalize addD a b c d = D at *
  grind
theorem add_in (a b c d : Int) : InI (addN a b c d) ∧ InI (addD a b c d) := by
  unfold addN addD
  split
  · exact mk_in2 _ _
  · exact ⟨⟨by decide, by decide⟩, ⟨by decide, by decide⟩⟩
theorem sub_in (a b c d : Int) : InI (subN a b c d) ∧ InI (subD a b c d) := by
  unfold subN subD
  split
  · exact add_in _ _ _ _
  · exact ⟨⟨by decide, by decide⟩, ⟨by decide, by decide⟩⟩
/-- What is taken away is added again. -/
theorem again {a b c d : Int} (hs : subB a b c d = true) (ha : addB (subN a b c d) (subD a b c d) c d = true) : addN (subN a b c d) (subD a b c d) c d = a ∧ addD (subN a b c d) (subD a b c d) c d = b := by
  unfold subB at hs
  rw [Bool.and_eq_true] at hs
  have e1 : subN a b c d = addN a b (-c) d := by unfold subN; rw [if_pos hs.1]
  have e2 : subD a b c d = addD a b (-c) d := by unfold subD; rw [if_pos hs.1]
  obtain ⟨g1, _, g3, v1⟩ := add_good hs.2
  rw [← e1, ← e2] at g3 v1
  obtain ⟨_, g5, g6, v2⟩ := add_good ha
  have s0 := good_pos g3
  have d0 := good_pos g5
  generalize subN a b c d = S at *
  generalize subD a b c d = T at *
  generalize addN S T c d = R at *
  generalize addD S T c d = U at *
  refine good_unique g6 g1 (Int.eq_of_mul_eq_mul_right (a := T * d * d) ?_ ?_)
  · have h1 : T * d ≠ 0 := Int.mul_ne_zero (by omega) (by omega)
    exact Int.mul_ne_zero h1 (by omega)
  · grind
theorem add_turn (a b c d : Int) : addN a b c d = addN c d a b ∧ addD a b c d = addD c d a b ∧ addB a b c d = addB c d a b := by
  have eX : addX c d a b = addY a b c d := by unfold addX addY; rw [gd_comm]
  have eY : addY c d a b = addX a b c d := by unfold addX addY; rw [gd_comm]
  have eM : addM c d a b = addM a b c d := by
    unfold addM
    rw [gd_comm d b, ← Int.mul_ediv_assoc d (gd_dvd_left b d), ← Int.mul_ediv_assoc b (gd_dvd_right b d), Int.mul_comm]
  have eO : addOk c d a b = addOk a b c d := by
    unfold addOk
    rw [eX, eY, eM, Int.add_comm (addY a b c d), Bool.and_comm (goodB c d), Bool.and_comm (fitB (addY a b c d))]
  unfold addN addD addB
  rw [eO, eX, eY, eM, Int.add_comm (addY a b c d)]
  exact ⟨rfl, rfl, rfl⟩
theorem mul_turn (a b c d : Int) : mulN a b c d = mulN c d a b ∧ mulD a b c d = mulD c d a b ∧ mulB a b c d = mulB c d a b := by
  have eX : mulX c d a b = mulX a b c d := by unfold mulX; rw [Int.mul_comm]
  have eM : mulM c d a b = mulM a b c d := by unfold mulM; rw [Int.mul_comm]
  have eO : mulOk c d a b = mulOk a b c d := by
    unfold mulOk
    rw [eX, eM, Bool.and_comm (goodB c d)]
  unfold mulN mulD mulB
  rw [eO, eX, eM]
  exact ⟨rfl, rfl, rfl⟩
theorem cmp3_turn (x y : Int) : cmp3 x y = -cmp3 y x := by
  unfold cmp3
  (repeat' split) <;> omega
theorem cmp_turn (a b c d : Int) : cmpR a b c d = -cmpR c d a b := by
  unfold cmpR
  rw [Bool.and_comm (goodB c d)]
  split
  · exact cmp3_turn _ _
  · rfl
theorem cmpR_bd (a b c d : Int) : -1 ≤ cmpR a b c d ∧ cmpR a b c d ≤ 1 := by
  unfold cmpR cmp3
  (repeat' split) <;> omega
theorem good_whole (n : Int) : goodB n 1 = true := by unfold goodB gd; simp
/-- Whole numbers below and above. -/
theorem whole_laws {n d : Int} (hn : InI n) (hd : InI d) (h : goodB n d = true) :
    cmpR (wholeR n d false) 1 n d ≤ 0 ∧ 0 ≤ cmpR (wholeR n d true) 1 n d ∧ (wholeR n d false = wholeR n d true ↔ d = 1) ∧ (wholeR n d false = wholeR n d true ∨ wholeR n d true = wholeR n d false + 1) ∧ InI (wholeR n d false) ∧ InI (wholeR n d true) := by
  have d0 := good_pos h
  have dne : d ≠ 0 := by omega
  have hx : ¬ (n = -9223372036854775808 ∧ d = -1) := by omega
  have i1 := quo_in n d hn hd dne hx false
  have i2 := quo_in n d hn hd dne hx true
  obtain ⟨q1, _, q3, q4⟩ := quo_laws n d dne
  have q1 := q1 d0
  have e1 : wholeR n d false = quoR n d false := by unfold wholeR; rw [if_pos h]; exact fitN_of i1
  have e2 : wholeR n d true = quoR n d true := by unfold wholeR; rw [if_pos h]; exact fitN_of i2
  have c1 : ∀ z : Int, cmpR z 1 n d = cmp3 (z * d) n := by
    intro z; unfold cmpR; rw [good_whole, h, Int.mul_one]; rfl
  rw [c1, c1, e1, e2]
  have g1 := good_gd h
  generalize quoR n d false = f at *
  generalize quoR n d true = c at *
  have t1 : cmp3 (f * d) n ≤ 0 := by unfold cmp3; split <;> omega
  refine ⟨t1, ?_, ?_, ?_, i1, i2⟩
  · by_cases hz : n - f * d = 0
    · rw [q3 hz]; unfold cmp3; (repeat' split) <;> omega
    · rw [q4 hz, Int.add_mul, Int.one_mul]; unfold cmp3; (repeat' split) <;> omega
  · constructor
    · intro he
      have hz : n - f * d = 0 := by
        by_cases hz : n - f * d = 0
        · exact hz
        · have := q4 hz; omega
      have hdv : d ∣ n := ⟨f, by rw [Int.mul_comm]; omega⟩
      have : gd n d = d := by
        unfold gd
        rw [Nat.gcd_eq_right (Int.natAbs_dvd_natAbs.2 hdv)]; omega
      omega
    · intro he
      subst he
      have hz : n - f * 1 = 0 := by omega
      exact (q3 hz).symm
  · by_cases hz : n - f * d = 0
    · exact .inl (q3 hz).symm
    · exact .inr (q4 hz)
theorem mk_whole (n : Int) (hn : InI n) : mkN n 1 = n ∧ mkD n 1 = 1 ∧ mkB n 1 = true := by
  have hg : gd n 1 = 1 := by unfold gd; simp
  have hr : rg n 1 = 1 := by unfold rg; rw [hg]; simp
  have hb : mkB n 1 = true := by
    unfold mkB; rw [hr, Int.ediv_one, fitB_iff.2 hn]; decide
  unfold mkN mkD
  rw [hb, hr, Int.ediv_one]
  exact ⟨rfl, rfl, rfl⟩
theorem add_whole (n m : Int) (hn : InI n) (hm : InI m) (hs : InI (n + m)) : addN n 1 m 1 = n + m ∧ addD n 1 m 1 = 1 ∧ addB n 1 m 1 = true := by
  have hg : gd 1 1 = 1 := by decide
  have eX : addX n 1 m 1 = n := by unfold addX; rw [hg]; simp
  have eY : addY n 1 m 1 = m := by unfold addY; rw [hg]; simp
  have eM : addM n 1 m 1 = 1 := by unfold addM; rw [hg]; rfl
  have eO : addOk n 1 m 1 = true := by
    unfold addOk; rw [eX, eY, eM, good_whole, good_whole, fitB_iff.2 hn, fitB_iff.2 hm, fitB_iff.2 hs]; decide
  obtain ⟨e1, e2, e3⟩ := mk_whole (n + m) hs
  unfold addN addD addB
  rw [eO, eX, eY, eM, e1, e2, e3]
  exact ⟨rfl, rfl, rfl⟩
theorem mul_whole (n m : Int) (hs : InI (n * m)) : mulN n 1 m 1 = n * m ∧ mulD n 1 m 1 = 1 ∧ mulB n 1 m 1 = true := by
  have hg : ∀ z : Int, gd z 1 = 1 := by intro z; unfold gd; simp
  have eX : mulX n 1 m 1 = n * m := by unfold mulX; rw [hg, hg]; simp
  have eM : mulM n 1 m 1 = 1 := by unfold mulM; rw [hg, hg]; rfl
  have eO : mulOk n 1 m 1 = true := by
    unfold mulOk; rw [eX, eM, good_whole, good_whole, fitB_iff.2 hs]; decide
  obtain ⟨e1, e2, e3⟩ := mk_whole (n * m) hs
  unfold mulN mulD mulB
  rw [eO, eX, eM, e1, e2, e3]
  exact ⟨rfl, rfl, rfl⟩
end Go.Proofs.YtkdklmkcanjjfaaDoor
