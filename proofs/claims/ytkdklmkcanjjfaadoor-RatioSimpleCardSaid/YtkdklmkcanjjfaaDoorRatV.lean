/- The simplest ratio between two: what Simplest hands back. -/
import Derived.Test.YtkdklmkcanjjfaaDoorRatU
namespace Go.Proofs.YtkdklmkcanjjfaaDoor
open Go.RowKit
set_option linter.unusedVariables false
set_option linter.unusedSimpArgs false
set_option maxRecDepth 100000

open Classical in
/-- The chain between two ratios, where there is one. -/
noncomputable def chainOf (a b c d : Int) : List Int := if h : ∃ L, Btw a b c d L then Classical.choose h else []
theorem chain_btw {a b c d : Int} (a0 : 0 < a) (b0 : 0 < b) (c0 : 0 < c) (d0 : 0 < d) (hle : a * d ≤ c * b) : Btw a b c d (chainOf a b c d) := by
  have h := btw_ex _ a b c d (Nat.le_refl _) a0 b0 c0 d0 hle
  unfold chainOf
  rw [dif_pos h]
  exact Classical.choose_spec h
noncomputable def simpR (a b c d : Int) : Int × Int × Bool :=
  if (goodB a b && goodB c d) = true ∧ cmpR a b c d ≤ 0 then
    (if a ≤ 0 ∧ 0 ≤ c then (0, 1, true)
     else if 0 < a then ((cf (chainOf a b c d)).1, (cf (chainOf a b c d)).2, true)
     else if (fitB (-a) && fitB (-c)) = true then (-(cf (chainOf (-c) d (-a) b)).1, (cf (chainOf (-c) d (-a) b)).2, true) else (0, 0, false))
  else (0, 0, false)
theorem cmp_le {a b c d : Int} (hg : (goodB a b && goodB c d) = true) : cmpR a b c d ≤ 0 ↔ a * d ≤ c * b := by
  unfold cmpR
  rw [if_pos hg]
  unfold cmp3
  (repeat' split) <;> omega
theorem good_neg {a b : Int} (h : goodB a b = true) : goodB (-a) b = true := by
  unfold goodB gd at h ⊢
  rw [Int.natAbs_neg]; exact h
theorem sign_of {a b c d : Int} (b0 : 0 < b) (d0 : 0 < d) (hle : a * d ≤ c * b) : (0 < a → 0 < c) ∧ (c < 0 → a < 0) := by
  constructor
  · intro h
    have h1 : 0 < a * d := Int.mul_pos h d0
    have h2 : 0 * b < c * b := by omega
    exact lt_of_mul b0 h2
  · intro h
    have h1 : c * b < 0 * b := Int.mul_lt_mul_of_pos_right h b0
    have h2 : a * d < 0 * d := by omega
    exact lt_of_mul d0 h2
theorem simplest_any (a b c d : Int) (w : World) (ia : InI a) (ib : InI b) (ic : InI c) (id : InI d) :
    Calls Tryd.prog 35 #[.agg #[.int .i64 a, .int .i64 b], .agg #[.int .i64 c, .int .i64 d]] w fun e w' => e = .returned (.tuple #[.agg #[.int .i64 (simpR a b c d).1, .int .i64 (simpR a b c d).2.1], .bool (simpR a b c d).2.2]) ∧ Below w.heap.size w w' := by
  have HB := fun w => both_any a b c d w ia ib ic id
  have HC := Lib.hid (fun w => rcmp_any a b c d w ia ib ic id)
  cases hg : (goodB a b && goodB c d)
  · rw [hg] at HB
    have h := simp_bad a b c d w (Lib.hid HB)
    unfold simpR
    rw [hg, if_neg (by simp)]
    exact h
  · rw [hg] at HB
    by_cases hx : cmpR a b c d ≤ 0
    · have hle := (cmp_le hg).1 hx
      simp only [Bool.and_eq_true] at hg
      have b0 := good_pos hg.1
      have d0 := good_pos hg.2
      obtain ⟨s1, s2⟩ := sign_of b0 d0 hle
      have e0 : simpR a b c d = (if a ≤ 0 ∧ 0 ≤ c then (0, 1, true) else if 0 < a then ((cf (chainOf a b c d)).1, (cf (chainOf a b c d)).2, true) else if (fitB (-a) && fitB (-c)) = true then (-(cf (chainOf (-c) d (-a) b)).1, (cf (chainOf (-c) d (-a) b)).2, true) else (0, 0, false)) := by
        unfold simpR; rw [if_pos ⟨by rw [hg.1, hg.2]; rfl, hx⟩]
      rw [e0]
      by_cases hm : a ≤ 0 ∧ 0 ≤ c
      · rw [if_pos hm]
        exact simp_mid a b c d w _ hx hm.1 hm.2 (Lib.hid HB) HC (Lib.hid fun w => rof_any 0 w)
      · rw [if_neg hm]
        by_cases ha : 0 < a
        · rw [if_pos ha]
          exact simp_pos a b c d w _ _ _ hx ha (Lib.hid HB) HC (Lib.hid fun w => between_any _ a b c d w ia ib ic id (chain_btw ha b0 (s1 ha) d0 hle) hg.1 hg.2 ha (s1 ha) hle)
        · rw [if_neg ha]
          have hc : c < 0 := by omega
          have ha2 := s2 hc
          cases hf : (fitB (-a) && fitB (-c))
          · rw [if_neg (by simp)]
            exact simp_wide a b c d w _ _ _ _ _ hf hx ha2 hc (Lib.hid HB) HC (Lib.hid fun w => Neg_any a w ia) (Lib.hid fun w => Neg_any c w ic)
          · rw [if_pos rfl]
            simp only [Bool.and_eq_true] at hf
            have i1 := fitB_iff.1 hf.1
            have i2 := fitB_iff.1 hf.2
            have h1 := fun w => Neg_any a w ia
            have h2 := fun w => Neg_any c w ic
            rw [hf.1, fitN_of i1] at h1
            rw [hf.2, fitN_of i2] at h2
            have hle2 : (-c) * b ≤ (-a) * d := by rw [Int.neg_mul, Int.neg_mul]; omega
            have hb := chain_btw (a := -c) (b := d) (c := -a) (d := b) (by omega) d0 (by omega) b0 hle2
            have hl := btw_law hb (by omega) d0 (by omega) b0 hle2
            have hl5 := hl.2.2.2.2 (-c) d d0 (by omega) hle2
            exact simp_neg a b c d w _ _ _ _ _ hx ha2 hc (Lib.hid HB) HC (Lib.hid h1) (Lib.hid h2) (Lib.hid fun w => between_any _ (-c) d (-a) b w i2 id i1 ib hb (good_neg hg.2) (good_neg hg.1) (by omega) (by omega) hle2)
              (Lib.hid fun w => turned_any _ _ w (by omega) (by have := i2.2; omega))
    · have h := simp_gt a b c d w _ (by omega) (Lib.hid HB) HC
      unfold simpR
      rw [if_neg (by intro h; exact hx h.2)]
      exact h
/-- The simplest one lies between both, is good, has no greater Den; it is turned round with both. -/
theorem near_law {a b c d n m : Int} (ia : InI a) (ib : InI b) (ic : InI c) (id : InI d) (h : simpR a b c d = (n, m, true)) :
    goodB n m = true ∧ cmpR a b n m ≤ 0 ∧ cmpR n m c d ≤ 0 ∧ m ≤ b ∧ m ≤ d ∧ (a = c → b = d → n = a ∧ m = b) ∧ InI n ∧ InI m ∧ (-9223372036854775808 < a → -9223372036854775808 < c → simpR (-c) d (-a) b = (-n, m, true)) ∧ (goodB a b && goodB c d) = true ∧ cmpR a b c d ≤ 0 ∧ -9223372036854775807 ≤ n := by
  unfold simpR at h
  by_cases hcond : (goodB a b && goodB c d) = true ∧ cmpR a b c d ≤ 0
  · rw [if_pos hcond] at h
    obtain ⟨hg, hx⟩ := hcond
    have hle := (cmp_le hg).1 hx
    have hg' := hg
    simp only [Bool.and_eq_true] at hg'
    have b0 := good_pos hg'.1
    have d0 := good_pos hg'.2
    obtain ⟨s1, s2⟩ := sign_of b0 d0 hle
    have hgn : (goodB (-c) d && goodB (-a) b) = true := by rw [good_neg hg'.1, good_neg hg'.2]; rfl
    have hle2 : (-c) * b ≤ (-a) * d := by rw [Int.neg_mul, Int.neg_mul]; omega
    have hxn : cmpR (-c) d (-a) b ≤ 0 := (cmp_le hgn).2 hle2
    have en : simpR (-c) d (-a) b = (if -c ≤ 0 ∧ 0 ≤ -a then (0, 1, true) else if 0 < -c then ((cf (chainOf (-c) d (-a) b)).1, (cf (chainOf (-c) d (-a) b)).2, true) else if (fitB (- -c) && fitB (- -a)) = true then (-(cf (chainOf (- -a) b (- -c) d)).1, (cf (chainOf (- -a) b (- -c) d)).2, true) else (0, 0, false)) := by
      unfold simpR; rw [if_pos ⟨hgn, hxn⟩]
    have fin : ∀ n m : Int, goodB n m = true → a * m ≤ n * b → n * d ≤ c * m → m ≤ b → m ≤ d → goodB n m = true ∧ cmpR a b n m ≤ 0 ∧ cmpR n m c d ≤ 0 ∧ m ≤ b ∧ m ≤ d ∧ (a = c → b = d → n = a ∧ m = b) := by
      intro n m g l1 l2 l3 l4
      refine ⟨g, (cmp_le (by rw [hg'.1, g]; rfl)).2 l1, (cmp_le (by rw [g, hg'.2]; rfl)).2 l2, l3, l4, ?_⟩
      intro e1 e2
      subst e1
      subst e2
      exact good_unique g hg'.1 (by omega)
    by_cases hm : a ≤ 0 ∧ 0 ≤ c
    · rw [if_pos hm] at h
      simp only [Prod.mk.injEq, and_true] at h
      obtain ⟨rfl, rfl⟩ := h
      obtain ⟨f1, f2, f3, f4, f5, f6⟩ := fin 0 1 (by decide) (by omega) (by omega) (by omega) (by omega)
      refine ⟨f1, f2, f3, f4, f5, f6, ⟨by omega, by omega⟩, ⟨by omega, by omega⟩, ?_, hg, hx, by omega⟩
      intro _ _
      rw [en, if_pos ⟨by omega, by omega⟩]; rfl
    · rw [if_neg hm] at h
      by_cases ha : 0 < a
      · rw [if_pos ha] at h
        simp only [Prod.mk.injEq, and_true] at h
        obtain ⟨rfl, rfl⟩ := h
        have hc := s1 ha
        have hb := chain_btw ha b0 hc d0 hle
        obtain ⟨l1, l2, l3, l4, l5⟩ := btw_law hb ha b0 hc d0 hle
        have l6 := l5 a b b0 (by omega) hle
        have l7 := l5 c d d0 (by omega) (by omega)
        have gg : goodB (cf (chainOf a b c d)).1 (cf (chainOf a b c d)).2 = true := by
          unfold goodB gd; rw [cf_coprime]; simp [l2]
        obtain ⟨f1, f2, f3, f4, f5, f6⟩ := fin _ _ gg l3 l4 l6.2 l7.2
        have := ia.2
        have := ib.2
        refine ⟨f1, f2, f3, f4, f5, f6, ⟨by omega, by omega⟩, ⟨by omega, by omega⟩, ?_, hg, hx, by omega⟩
        intro _ _
        rw [en, if_neg (by omega), if_neg (by omega), Int.neg_neg, Int.neg_neg, fitB_iff.2 ia, fitB_iff.2 ic]; rfl
      · rw [if_neg ha] at h
        have hc : c < 0 := by omega
        have ha2 := s2 hc
        by_cases hf : (fitB (-a) && fitB (-c)) = true
        · rw [if_pos hf] at h
          simp only [Prod.mk.injEq, and_true] at h
          obtain ⟨rfl, rfl⟩ := h
          simp only [Bool.and_eq_true] at hf
          have i1 := fitB_iff.1 hf.1
          have i2 := fitB_iff.1 hf.2
          have hb := chain_btw (a := -c) (b := d) (c := -a) (d := b) (by omega) d0 (by omega) b0 hle2
          obtain ⟨l1, l2, l3, l4, l5⟩ := btw_law hb (by omega) d0 (by omega) b0 hle2
          have l6 := l5 (-c) d d0 (by omega) hle2
          have l7 := l5 (-a) b b0 hle2 (by omega)
          have gg : goodB (-(cf (chainOf (-c) d (-a) b)).1) (cf (chainOf (-c) d (-a) b)).2 = true := by
            refine good_neg ?_
            unfold goodB gd; rw [cf_coprime]; simp [l2]
          generalize (cf (chainOf (-c) d (-a) b)).1 = N at *
          generalize (cf (chainOf (-c) d (-a) b)).2 = D at *
          obtain ⟨f1, f2, f3, f4, f5, f6⟩ := fin _ _ gg (by rw [Int.neg_mul] at *; omega) (by rw [Int.neg_mul] at *; omega) l7.2 l6.2
          have := i2.2
          have := id.2
          refine ⟨f1, f2, f3, f4, f5, f6, ⟨by omega, by omega⟩, ⟨by omega, by omega⟩, ?_, hg, hx, by omega⟩
          intro _ _
          rw [en, if_neg (by omega), if_pos (by omega), Int.neg_neg]
        · rw [if_neg hf] at h
          simp at h
  · rw [if_neg hcond] at h
    simp at h
/-- Where there is none though both are good and in order. -/
theorem near_wide {a b c d : Int} (ia : InI a) (ic : InI c) (hg : (goodB a b && goodB c d) = true) (hx : cmpR a b c d ≤ 0) (h : (simpR a b c d).2.2 = false) : c < 0 ∧ (a = -9223372036854775808 ∨ c = -9223372036854775808) := by
  have hle := (cmp_le hg).1 hx
  have hg' := hg
  simp only [Bool.and_eq_true] at hg'
  obtain ⟨s1, s2⟩ := sign_of (good_pos hg'.1) (good_pos hg'.2) hle
  unfold simpR at h
  rw [if_pos ⟨hg, hx⟩] at h
  by_cases hm : a ≤ 0 ∧ 0 ≤ c
  · rw [if_pos hm] at h; cases h
  · rw [if_neg hm] at h
    by_cases ha : 0 < a
    · rw [if_pos ha] at h; cases h
    · rw [if_neg ha] at h
      by_cases hf : (fitB (-a) && fitB (-c)) = true
      · rw [if_pos hf] at h; cases h
      · refine ⟨by omega, ?_⟩
        by_cases h1 : a = -9223372036854775808
        · exact .inl h1
        · by_cases h2 : c = -9223372036854775808
          · exact .inr h2
          · exfalso
            apply hf
            obtain ⟨i1, i2⟩ := ia
            obtain ⟨i3, i4⟩ := ic
            rw [fitB_iff.2 ⟨by omega, by omega⟩, fitB_iff.2 ⟨by omega, by omega⟩]; rfl
theorem near_none {a b c d : Int} (h : ¬ ((goodB a b && goodB c d) = true ∧ cmpR a b c d ≤ 0)) : simpR a b c d = (0, 0, false) := by
  unfold simpR; rw [if_neg h]
theorem simp_in {a b c d : Int} (ia : InI a) (ib : InI b) (ic : InI c) (id : InI d) : InI (simpR a b c d).1 ∧ InI (simpR a b c d).2.1 := by
  rcases hs : simpR a b c d with ⟨n, m, ok⟩
  cases ok
  · have h : simpR a b c d = (0, 0, false) := by
      unfold simpR at hs ⊢
      split at hs
      · rename_i hc
        rw [if_pos hc]
        split at hs
        · simp at hs
        · rename_i h1
          rw [if_neg h1]
          split at hs
          · simp at hs
          · rename_i h2
            rw [if_neg h2]
            split at hs
            · simp at hs
            · rename_i h3
              rw [if_neg h3]
      · rename_i hc
        rw [if_neg hc]
    rw [hs] at h
    simp only [Prod.mk.injEq] at h
    obtain ⟨rfl, rfl, _⟩ := h
    exact ⟨⟨by decide, by decide⟩, ⟨by decide, by decide⟩⟩
  · obtain ⟨_, _, _, _, _, _, h1, h2, _⟩ := near_law ia ib ic id hs
    exact ⟨h1, h2⟩
end Go.Proofs.YtkdklmkcanjjfaaDoor
