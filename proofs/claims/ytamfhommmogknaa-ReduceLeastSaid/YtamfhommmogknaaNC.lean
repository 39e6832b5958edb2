/- The walks of package num, part C: add and what is built of it. -/
import Derived.Test.YtamfhommmogknaaNB
namespace Go.Proofs.Ytamfhommmogknaa
open Go.RowKit
set_option linter.unusedVariables false
set_option linter.unusedSimpArgs false
set_option maxRecDepth 100000

theorem less_fact (n m : Bool) (h l h' l' a b q1 q2 : Int) (ka : IsW n h l a) (kb : IsW m h' l' b) (hnm : n ≠ m) (hab : b.natAbs ≤ a.natAbs)
    (hq : q1 * 18446744073709551616 + q2 = a.natAbs - b.natAbs) : a + b = if n = true then -(q1 * 18446744073709551616 + q2) else q1 * 18446744073709551616 + q2 := by
  rcases ka.cases_ with ⟨e1, p1, _⟩ | ⟨e1, p1, _⟩
  · rw [e1, if_pos rfl]
    rcases kb.cases_ with ⟨e2, p2, _⟩ | ⟨e2, p2, _⟩
    · exact absurd (e1.trans e2.symm) hnm
    · omega
  · rw [e1, if_neg (by simp)]
    rcases kb.cases_ with ⟨e2, p2, _⟩ | ⟨e2, p2, _⟩
    · omega
    · exact absurd (e1.trans e2.symm) hnm

set_option maxHeartbeats 1600000 in
theorem add_any (n m : Bool) (h l h' l' a b : Int) (w : World) (ka : IsW n h l a) (kb : IsW m h' l' b)
    (hs : -340282366920938463463374607431768211456 < a + b) (hs' : a + b < 340282366920938463463374607431768211456) :
    Calls Try.prog 35 #[.agg #[.bool n, .int .u64 h, .int .u64 l], .agg #[.bool m, .int .u64 h', .int .u64 l']] w (RetW (a + b) w) := by
  have S1 := Lib.hid hs
  have S2 := Lib.hid hs'
  clear hs hs'
  by_cases hnm : n = m
  · have hnm1 : (n == m) = true := by simp [hnm]
    have HP := fun w => plus_any n m h l h' l' a b w ka kb hnm S1.out S2.out
    have HPc := Lib.hid HP
    clear hnm HP
    go_enter Try.func35, Try.ntmps35
    go_wp2_with (go_at_call 37; refine (HPc.out _).mono ?_; rintro e w1 ⟨n1, h1, l1, rfl, k1, hb1⟩; obtain ⟨hc1, hf1⟩ := bcell hb1)
    refine bodyPost_ret (v := .agg #[.bool n1, .int .u64 h1, .int .u64 l1]) (by simp [results, Try.results35, go_sem, hc1, hf1]) rfl ⟨_, _, _, rfl, k1, ?_⟩
    (repeat (first | exact Below.refl _ _ | with_reducible assumption | refine bl_alloc ?_ _ | refine bl_set ?_ (by simp <;> omega) _ | refine bl_drew ?_ | refine bl_drewN ?_ _ | refine bl_step ?_ (by assumption)))
  · have hnm1 : (n == m) = false := by simpa using hnm
    have dif : n ≠ m := hnm
    have DIF := Lib.hid dif
    clear hnm dif
    by_cases hd : b.natAbs ≤ a.natAbs
    · have hc' : (0 : Int) ≤ cmp3 a.natAbs b.natAbs := by unfold cmp3; split <;> (try split) <;> omega
      have HL := fun w => less_any n m h l h' l' a b w ka kb hd
      have HM := less_math n m h l h' l' a b ka kb hd
      generalize IntKind.u64.wrap (h - h' - borrow64 l l') = q1 at HL HM
      generalize IntKind.u64.wrap (l - l') = q2 at HL HM
      have HN := fun w => normal_any n q1 q2 (a + b) w HM.1 HM.2.1 HM.2.2.1 HM.2.2.2.1 (less_fact n m h l h' l' a b q1 q2 ka kb DIF.out hd HM.2.2.2.2)
      have HLc := Lib.hid HL
      have HNc := Lib.hid HN
      clear HN HL HM hd
      go_enter Try.func35, Try.ntmps35
      go_wp2_with (first | (go_at_call 38; refine (distance_any _ _ _ _ _ _ a b _ ka kb).mono ?_; rintro e w1 ⟨rfl, hB1⟩; obtain ⟨hc1, hf1⟩ := bcell hB1) | (go_at_call 40; refine (HLc.out _).mono ?_; rintro e w2 ⟨rfl, hb2⟩; have hB2 := bl_step hB1 hb2; clear hc1 hf1; obtain ⟨hc2, hf2⟩ := bcell hB2) | (go_at_call 39; refine (HNc.out _).mono ?_; rintro e w3 ⟨n1, h1, l1, rfl, k1, hb3⟩; have hB3 := bl_step hB2 hb3; clear hc2 hf2; obtain ⟨hc3, hf3⟩ := bcell hB3))
      refine bodyPost_ret (v := .agg #[.bool n1, .int .u64 h1, .int .u64 l1]) (by simp [results, Try.results35, go_sem, hc3, hf3]) rfl ⟨_, _, _, rfl, k1, ?_⟩
      (repeat (first | exact Below.refl _ _ | with_reducible assumption | refine bl_alloc ?_ _ | refine bl_set ?_ (by simp <;> omega) _ | refine bl_drew ?_ | refine bl_drewN ?_ _ | refine bl_step ?_ (by assumption)))
    · have hd2 : a.natAbs ≤ b.natAbs := by omega
      have hc' : cmp3 a.natAbs b.natAbs < (0 : Int) := by unfold cmp3; split <;> (try split) <;> omega
      have HL := fun w => less_any m n h' l' h l b a w kb ka hd2
      have HM := less_math m n h' l' h l b a kb ka hd2
      generalize IntKind.u64.wrap (h' - h - borrow64 l' l) = q1 at HL HM
      generalize IntKind.u64.wrap (l' - l) = q2 at HL HM
      have HN := fun w => normal_any m q1 q2 (a + b) w HM.1 HM.2.1 HM.2.2.1 HM.2.2.2.1 (by have := less_fact m n h' l' h l b a q1 q2 kb ka (Ne.symm DIF.out) hd2 HM.2.2.2.2; rw [← this]; omega)
      have HLc := Lib.hid HL
      have HNc := Lib.hid HN
      clear HN HL HM hd hd2
      go_enter Try.func35, Try.ntmps35
      go_wp2_with (first | (go_at_call 38; refine (distance_any _ _ _ _ _ _ a b _ ka kb).mono ?_; rintro e w1 ⟨rfl, hB1⟩; obtain ⟨hc1, hf1⟩ := bcell hB1) | (go_at_call 40; refine (HLc.out _).mono ?_; rintro e w2 ⟨rfl, hb2⟩; have hB2 := bl_step hB1 hb2; clear hc1 hf1; obtain ⟨hc2, hf2⟩ := bcell hB2) | (go_at_call 39; refine (HNc.out _).mono ?_; rintro e w3 ⟨n1, h1, l1, rfl, k1, hb3⟩; have hB3 := bl_step hB2 hb3; clear hc2 hf2; obtain ⟨hc3, hf3⟩ := bcell hB3))
      refine bodyPost_ret (v := .agg #[.bool n1, .int .u64 h1, .int .u64 l1]) (by simp [results, Try.results35, go_sem, hc3, hf3]) rfl ⟨_, _, _, rfl, k1, ?_⟩
      (repeat (first | exact Below.refl _ _ | with_reducible assumption | refine bl_alloc ?_ _ | refine bl_set ?_ (by simp <;> omega) _ | refine bl_drew ?_ | refine bl_drewN ?_ _ | refine bl_step ?_ (by assumption)))
end Go.Proofs.Ytamfhommmogknaa
