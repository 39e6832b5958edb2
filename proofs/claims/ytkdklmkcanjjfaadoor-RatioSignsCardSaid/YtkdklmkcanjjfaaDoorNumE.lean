/- The walks of package num, part E: quotients, rounded. -/
import Derived.Test.YtkdklmkcanjjfaaDoorNumD
namespace Go.Proofs.YtkdklmkcanjjfaaDoor
open Go.RowKit
set_option linter.unusedVariables false
set_option linter.unusedSimpArgs false
set_option maxRecDepth 100000

theorem quoT_bd (a b : Int) (ha : InI a) (_hb : InI b) : -9223372036854775808 ≤ quoT a b ∧ quoT a b ≤ 9223372036854775808 := by
  have h1 := ha.1; have h2 := ha.2
  have : a.natAbs / b.natAbs ≤ a.natAbs := Nat.div_le_self _ _
  unfold quoT
  generalize a.natAbs / b.natAbs = q at *
  split <;> omega
theorem quoR_Floor_yes (a b : Int) (hl : quoL a b = true) (hs : (decide (a < 0) != decide (b < 0)) = true) : quoR a b false = quoT a b + -1 := by
  unfold quoR; rw [hl, hs]; simp; omega
theorem quoR_Floor_no (a b : Int) (h : quoL a b = false ∨ (decide (a < 0) != decide (b < 0)) = false) : quoR a b false = quoT a b := by
  unfold quoR; rcases h with h | h <;> rw [h] <;> simp
theorem quoR_Ceil_yes (a b : Int) (hl : quoL a b = true) (hs : (decide (a < 0) != decide (b < 0)) = false) : quoR a b true = quoT a b + 1 := by
  unfold quoR; rw [hl, hs]; simp
theorem quoR_Ceil_no (a b : Int) (h : quoL a b = false ∨ (decide (a < 0) != decide (b < 0)) = true) : quoR a b true = quoT a b := by
  unfold quoR; rcases h with h | h <;> rw [h] <;> simp

set_option maxHeartbeats 1600000 in
theorem Floor_any (a b : Int) (w : World) (ha : InI a) (hb : InI b) (hb0 : b ≠ 0) :
    Calls Tryd.prog 52 #[.int .i64 a, .int .i64 b] w fun e w' => e = .returned (.tuple #[.int .i64 (fitN (quoR a b false)), .bool (fitB (quoR a b false))]) ∧ Below w.heap.size w w' := by
  have hbf : (b == 0) = false := by simpa using hb0
  have HD := Lib.hid (fun w => divided_any a b w ha hb hb0)
  obtain ⟨hq1, hq2⟩ := quoT_bd a b ha hb
  have i1 : InI (-1) := ⟨by omega, by omega⟩
  have HA := Lib.hid (fun n m h l h' l' w ka kb => add_any n m h l h' l' (quoT a b) (-1) w ka kb (by omega) (by omega))
  clear hb0 hq1 hq2
  by_cases hl : quoL a b = true
  · by_cases hs : (decide (a < 0) != decide (b < 0)) = true
    · have hr := quoR_Floor_yes a b hl hs
      have hs' : (!(decide (a < 0) == decide (b < 0))) = true := by revert hs; cases decide (a < 0) <;> cases decide (b < 0) <;> simp
      rw [hr]
      clear hr
      go_enter Tryd.func52, Tryd.ntmps52
      go_wp2_with fail
      refine (HD.out _).mono ?_; rintro e w1 ⟨n1, h1, l1, rfl, k1, hb1⟩
      go_wp2_with fail
      go_region_with (first | (go_at_call 76; refine (of_any _ _ i1).mono ?_; rintro e w2 ⟨n2, h2, l2, rfl, k2, hb2⟩; obtain ⟨hc2, hf2⟩ := bcell hb2) | (go_at_call 75; refine (HA.out _ _ _ _ _ _ _ k1 k2).mono ?_; rintro e w3 ⟨n3, h3, l3, rfl, k3, hb3⟩; clear hc2 hf2; have hB3 := bl_step hb2 hb3; obtain ⟨hc3, hf3⟩ := bcell hB3))
      all_goals
        go_wp2_with fail
        refine (short_any _ _ _ _ _ k3).mono ?_; rintro e w4 ⟨rfl, hb4⟩
        go_wp2
        go_ret2
        refine ⟨rfl, ?_⟩
        have hw1 : w.heap.size ≤ w1.heap.size := hb1.size
        have hB3' := bl_step (bl_drew (bl_alloc hb1 _)) hB3
        exact bl_step (bl_set (bl_set (bl_set hB3' hw1 _) hw1 _) hw1 _) hb4
    · have hs : (decide (a < 0) != decide (b < 0)) = false := by simpa using hs
      have hr := quoR_Floor_no a b (.inr hs)
      have hs' : (decide (a < 0) == decide (b < 0)) = true := by revert hs; cases decide (a < 0) <;> cases decide (b < 0) <;> simp
      rw [hr]
      clear hr
      go_enter Tryd.func52, Tryd.ntmps52
      go_wp2_with fail
      refine (HD.out _).mono ?_; rintro e w1 ⟨n1, h1, l1, rfl, k1, hb1⟩
      go_wp2_with fail
      refine (short_any _ _ _ _ _ k1).mono ?_; rintro e w4 ⟨rfl, hb4⟩
      go_wp2
      go_ret2
      exact ⟨rfl, bl_step (bl_alloc hb1 _) hb4⟩
  · have hl : quoL a b = false := by simpa using hl
    have hr := quoR_Floor_no a b (.inl hl)
    rw [hr]
    clear hr
    · go_enter Tryd.func52, Tryd.ntmps52
      go_wp2_with fail
      refine (HD.out _).mono ?_; rintro e w1 ⟨n1, h1, l1, rfl, k1, hb1⟩
      go_wp2_with fail
      refine (short_any _ _ _ _ _ k1).mono ?_; rintro e w4 ⟨rfl, hb4⟩
      go_wp2
      go_ret2
      exact ⟨rfl, bl_step (bl_alloc hb1 _) hb4⟩

theorem Floor_zero (a : Int) (w : World) :
    Calls Tryd.prog 52 #[.int .i64 a, .int .i64 0] w fun e w' => e = .returned (.tuple #[.int .i64 0, .bool false]) ∧ Below w.heap.size w w' := by
  go_enter Tryd.func52, Tryd.ntmps52
  go_wp2
  go_ret2
  exact ⟨rfl, Below.refl _ _⟩

set_option maxHeartbeats 1600000 in
theorem Ceil_any (a b : Int) (w : World) (ha : InI a) (hb : InI b) (hb0 : b ≠ 0) :
    Calls Tryd.prog 54 #[.int .i64 a, .int .i64 b] w fun e w' => e = .returned (.tuple #[.int .i64 (fitN (quoR a b true)), .bool (fitB (quoR a b true))]) ∧ Below w.heap.size w w' := by
  have hbf : (b == 0) = false := by simpa using hb0
  have HD := Lib.hid (fun w => divided_any a b w ha hb hb0)
  obtain ⟨hq1, hq2⟩ := quoT_bd a b ha hb
  have i1 : InI (1) := ⟨by omega, by omega⟩
  have HA := Lib.hid (fun n m h l h' l' w ka kb => add_any n m h l h' l' (quoT a b) (1) w ka kb (by omega) (by omega))
  clear hb0 hq1 hq2
  by_cases hl : quoL a b = true
  · by_cases hs : (decide (a < 0) != decide (b < 0)) = false
    · have hr := quoR_Ceil_yes a b hl hs
      have hs' : (decide (a < 0) == decide (b < 0)) = true := by revert hs; cases decide (a < 0) <;> cases decide (b < 0) <;> simp
      rw [hr]
      clear hr
      go_enter Tryd.func54, Tryd.ntmps54
      go_wp2_with fail
      refine (HD.out _).mono ?_; rintro e w1 ⟨n1, h1, l1, rfl, k1, hb1⟩
      go_wp2_with fail
      go_region_with (first | (go_at_call 76; refine (of_any _ _ i1).mono ?_; rintro e w2 ⟨n2, h2, l2, rfl, k2, hb2⟩; obtain ⟨hc2, hf2⟩ := bcell hb2) | (go_at_call 75; refine (HA.out _ _ _ _ _ _ _ k1 k2).mono ?_; rintro e w3 ⟨n3, h3, l3, rfl, k3, hb3⟩; clear hc2 hf2; have hB3 := bl_step hb2 hb3; obtain ⟨hc3, hf3⟩ := bcell hB3))
      all_goals
        go_wp2_with fail
        refine (short_any _ _ _ _ _ k3).mono ?_; rintro e w4 ⟨rfl, hb4⟩
        go_wp2
        go_ret2
        refine ⟨rfl, ?_⟩
        have hw1 : w.heap.size ≤ w1.heap.size := hb1.size
        have hB3' := bl_step (bl_drew (bl_alloc hb1 _)) hB3
        exact bl_step (bl_set (bl_set (bl_set hB3' hw1 _) hw1 _) hw1 _) hb4
    · have hs : (decide (a < 0) != decide (b < 0)) = true := by simpa using hs
      have hr := quoR_Ceil_no a b (.inr hs)
      have hs' : (decide (a < 0) == decide (b < 0)) = false := by revert hs; cases decide (a < 0) <;> cases decide (b < 0) <;> simp
      rw [hr]
      clear hr
      go_enter Tryd.func54, Tryd.ntmps54
      go_wp2_with fail
      refine (HD.out _).mono ?_; rintro e w1 ⟨n1, h1, l1, rfl, k1, hb1⟩
      go_wp2_with fail
      refine (short_any _ _ _ _ _ k1).mono ?_; rintro e w4 ⟨rfl, hb4⟩
      go_wp2
      go_ret2
      exact ⟨rfl, bl_step (bl_alloc hb1 _) hb4⟩
  · have hl : quoL a b = false := by simpa using hl
    have hr := quoR_Ceil_no a b (.inl hl)
    rw [hr]
    clear hr
    · go_enter Tryd.func54, Tryd.ntmps54
      go_wp2_with fail
      refine (HD.out _).mono ?_; rintro e w1 ⟨n1, h1, l1, rfl, k1, hb1⟩
      go_wp2_with fail
      refine (short_any _ _ _ _ _ k1).mono ?_; rintro e w4 ⟨rfl, hb4⟩
      go_wp2
      go_ret2
      exact ⟨rfl, bl_step (bl_alloc hb1 _) hb4⟩

theorem Ceil_zero (a : Int) (w : World) :
    Calls Tryd.prog 54 #[.int .i64 a, .int .i64 0] w fun e w' => e = .returned (.tuple #[.int .i64 0, .bool false]) ∧ Below w.heap.size w w' := by
  go_enter Tryd.func54, Tryd.ntmps54
  go_wp2
  go_ret2
  exact ⟨rfl, Below.refl _ _⟩

end Go.Proofs.YtkdklmkcanjjfaaDoor
