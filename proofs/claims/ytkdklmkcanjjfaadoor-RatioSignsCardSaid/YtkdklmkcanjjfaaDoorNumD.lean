/- The walks of package num, part D: what the package tells. -/
import Derived.Test.YtkdklmkcanjjfaaDoorNumC
import Derived.Deep.RegionHeld3
namespace Go.Proofs.YtkdklmkcanjjfaaDoor
open Go.RowKit
set_option linter.unusedVariables false
set_option linter.unusedSimpArgs false
set_option maxRecDepth 100000

theorem size_still (a : Int) (w : World) (ha : InI a) : Calls Tryd.prog 64 #[.int .i64 a] w fun e w' => e = .returned (.int .u64 a.natAbs) ∧ w' = w :=
  (size_any a w ha).mono fun _ _ h => ⟨h.1, h.2.symm⟩

theorem size_mag (a : Int) (w : World) (ha : InI a) : Calls Tryd.prog 64 #[.int .i64 a] w fun e w' => e = .returned (.int .u64 (mag a)) ∧ w' = w := size_still a w ha

set_option maxHeartbeats 800000 in
theorem Add_any (a b : Int) (w : World) (ha : InI a) (hb : InI b) :
    Calls Tryd.prog 57 #[.int .i64 a, .int .i64 b] w fun e w' => e = .returned (.tuple #[.int .i64 (fitN (a + b)), .bool (fitB (a + b))]) ∧ Below w.heap.size w w' := by
  have s1 : -340282366920938463463374607431768211456 < a + b := by have := ha.1; have := hb.1; omega
  have s2 : a + b < 340282366920938463463374607431768211456 := by have := ha.2; have := hb.2; omega
  have HA := fun n m h l h' l' w ka kb => add_any n m h l h' l' a b w ka kb s1 s2
  have HAc := Lib.hid HA
  clear HA s1 s2
  go_enter Tryd.func57, Tryd.ntmps57
  go_wp2_with fail
  refine (of_any _ _ ha).mono ?_; rintro e w1 ⟨n1, h1, l1, rfl, k1, hb1⟩
  go_wp2_with fail
  refine (of_any _ _ hb).mono ?_; rintro e w2 ⟨n2, h2, l2, rfl, k2, hb2⟩
  go_wp2_with fail
  refine (HAc.out _ _ _ _ _ _ _ k1 k2).mono ?_; rintro e w3 ⟨n3, h3, l3, rfl, k3, hb3⟩
  go_wp2_with fail
  refine (short_any _ _ _ _ _ k3).mono ?_; rintro e w4 ⟨rfl, hb4⟩
  go_wp2
  go_ret2
  refine ⟨rfl, ?_⟩
  exact bl_step (bl_step (bl_step hb1 hb2) hb3) hb4

set_option maxHeartbeats 800000 in
theorem Sub_any (a b : Int) (w : World) (ha : InI a) (hb : InI b) :
    Calls Tryd.prog 78 #[.int .i64 a, .int .i64 b] w fun e w' => e = .returned (.tuple #[.int .i64 (fitN (a + -b)), .bool (fitB (a + -b))]) ∧ Below w.heap.size w w' := by
  have s1 : -340282366920938463463374607431768211456 < a + -b := by have := ha.1; have := hb.2; omega
  have s2 : a + -b < 340282366920938463463374607431768211456 := by have := ha.2; have := hb.1; omega
  have HA := fun n m h l h' l' w ka kb => add_any n m h l h' l' a (-b) w ka kb s1 s2
  have HAc := Lib.hid HA
  clear HA s1 s2
  go_enter Tryd.func78, Tryd.ntmps78
  go_wp2_with fail
  refine (of_any _ _ hb).mono ?_; rintro e w1 ⟨n1, h1, l1, rfl, k1, hb1⟩
  obtain ⟨hc1, hf1⟩ := bcell hb1
  go_wp2_with fail
  have HNc := Lib.hid (fun w => normal_any (!n1) h1 l1 (-b) w k1.h0 k1.h1 k1.l0 k1.l1 (by rcases k1.cases_ with ⟨rfl, _, e⟩ | ⟨rfl, _, e⟩ <;> simp <;> omega))
  go_region_held3 (fun w' => w'.cell? ⟨w1.heap.size, 0, none⟩ = some (.bool (!n1)) ∧ w'.cell? ⟨w1.heap.size, 1, none⟩ = some (.int .u64 h1) ∧ w'.cell? ⟨w1.heap.size, 2, none⟩ = some (.int .u64 l1)) (go_keep)
    (first | (go_at_call 76; refine (of_any _ _ ha).mono ?_; rintro e w2 ⟨n2, h2, l2, rfl, k2, hb2⟩; obtain ⟨hc2, hf2⟩ := bcell hb2) | (go_at_call 93; refine (HNc.out _).mono ?_; rintro e w3 ⟨n3, h3, l3, rfl, k3, hb3⟩; clear hc2 hf2; have hB3 := bl_step hb2 hb3; obtain ⟨hc3, hf3⟩ := bcell hB3) | (go_at_call 75; refine (HAc.out _ _ _ _ _ _ _ k2 k3).mono ?_; rintro e w4 ⟨n4, h4, l4, rfl, k4, hb4⟩; clear hc3 hf3; have hB4 := bl_step hB3 hb4; obtain ⟨hc4, hf4⟩ := bcell hB4) | (go_at_call 65; refine (short_any _ _ _ _ _ k4).mono ?_; rintro e w5 ⟨rfl, hb5⟩; clear hc4 hf4; have hB5 := bl_step hB4 hb5; obtain ⟨hc5, hf5⟩ := bcell hB5))
  go_wp2
  go_ret2
  exact ⟨rfl, bl_step (bl_alloc hb1 _) (bl_step (bl_drew (Below.refl _ _)) hB5)⟩

set_option maxHeartbeats 400000 in
theorem Mul_any (a b : Int) (w : World) (ha : InI a) (hb : InI b) :
    Calls Tryd.prog 56 #[.int .i64 a, .int .i64 b] w fun e w' => e = .returned (.tuple #[.int .i64 (fitN (a * b)), .bool (fitB (a * b))]) ∧ Below w.heap.size w w' := by
  go_enter Tryd.func56, Tryd.ntmps56
  go_wp2_with fail
  refine (times_any _ _ _ ha hb).mono ?_; rintro e w1 ⟨n1, h1, l1, rfl, k1, hb1⟩
  go_wp2_with fail
  refine (short_any _ _ _ _ _ k1).mono ?_; rintro e w2 ⟨rfl, hb2⟩
  go_wp2
  go_ret2
  exact ⟨rfl, bl_step hb1 hb2⟩

set_option maxHeartbeats 400000 in
theorem Neg_any (a : Int) (w : World) (ha : InI a) :
    Calls Tryd.prog 61 #[.int .i64 a] w fun e w' => e = .returned (.tuple #[.int .i64 (fitN (-a)), .bool (fitB (-a))]) ∧ Below w.heap.size w w' := by
  have h0 : InI 0 := ⟨by omega, by omega⟩
  have HS := fun w => Sub_any 0 a w h0 ha
  rw [show (0 : Int) + -a = -a by omega] at HS
  have HSc := Lib.hid HS
  clear HS
  go_enter Tryd.func61, Tryd.ntmps61
  go_wp2_with fail
  refine (HSc.out _).mono ?_; rintro e w1 ⟨rfl, hb1⟩
  go_wp2
  go_ret2
  exact ⟨rfl, hb1⟩

/-- It returns a number of 128 bits, and a yes or no. -/
def RetWB (z : Int) (y : Bool) (w : World) (e : Ending) (w' : World) : Prop := ∃ n h l, e = .returned (.tuple #[.agg #[.bool n, .int .u64 h, .int .u64 l], .bool y]) ∧ IsW n h l z ∧ Below w.heap.size w w'

set_option maxHeartbeats 800000 in
theorem divided_any (a b : Int) (w : World) (ha : InI a) (hb : InI b) (hb0 : b ≠ 0) :
    Calls Tryd.prog 74 #[.int .i64 a, .int .i64 b] w (RetWB (quoT a b) (quoL a b) w) := by
  have hB : 1 ≤ mag b := by unfold mag; omega
  have hB1 : mag b ≤ 18446744073709551615 := by unfold mag; have := hb.1; have := hb.2; omega
  have hA0 : 0 ≤ mag a := by unfold mag; omega
  have hA1 : mag a ≤ 18446744073709551615 := by unfold mag; have := ha.1; have := ha.2; omega
  clear hb0
  go_enter Tryd.func74, Tryd.ntmps74
  go_wp2_with fail
  go_quiet ((first | (go_at_call 64; exact Calls.quiet_of_same (size_mag _ _ ha)) | (go_at_call 64; exact Calls.quiet_of_same (size_mag _ _ hb))))
  have q0 : 0 ≤ mag a / mag b := Int.ediv_nonneg hA0 (by omega)
  have q1 : mag a / mag b < 18446744073709551616 := by have := Int.ediv_le_self (b := mag b) hA0; omega
  have ez : quoT a b = if (decide (a < 0) != decide (b < 0)) = true then -(0 * 18446744073709551616 + mag a / mag b) else 0 * 18446744073709551616 + mag a / mag b := by
    unfold quoT mag; rw [Int.natCast_ediv]; split <;> omega
  have HN := Lib.hid (fun w => normal_any (decide (a < 0) != decide (b < 0)) 0 (mag a / mag b) (quoT a b) w (by omega) (by omega) q0 q1 ez)
  clear q0 q1 ez
  go_wp2_with fail
  refine (HN.out _).mono ?_; rintro e w1 ⟨n1, h1, l1, rfl, k1, hb1⟩
  obtain ⟨hc1, hf1⟩ := bcell hb1
  go_wp2
  refine bodyPost_ret (v := .tuple #[.agg #[.bool n1, .int .u64 h1, .int .u64 l1], .bool (mag a % mag b != 0)]) (by simp [results, Tryd.results74, go_sem, hc1, hf1]) rfl ⟨_, _, _, ?_, k1, ?_⟩
  · have el : (mag a % mag b != 0) = quoL a b := by
      unfold quoL mag
      rw [Bool.eq_iff_iff, bne_iff_ne, decide_eq_true_iff, ← Int.natCast_emod]
      omega
    rw [el]
  · (repeat (first | exact Below.refl _ _ | with_reducible assumption | refine bl_alloc ?_ _ | refine bl_set ?_ (by simp <;> omega) _ | refine bl_drew ?_ | refine bl_drewN ?_ _ | refine bl_step ?_ (by assumption)))
end Go.Proofs.YtkdklmkcanjjfaaDoor
