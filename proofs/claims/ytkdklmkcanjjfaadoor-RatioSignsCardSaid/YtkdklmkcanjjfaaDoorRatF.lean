/- The walks of ratio, part F: signs of life. -/
import Derived.Test.YtkdklmkcanjjfaaDoorRatE
namespace Go.Proofs.YtkdklmkcanjjfaaDoor
open Go.RowKit
set_option linter.unusedVariables false
set_option linter.unusedSimpArgs false
set_option maxRecDepth 100000

theorem text_3 : textR (-3) 2 = [45, 51, 47, 50] := by
  have h1 : goodB (-3) 2 = true := by decide +kernel
  have h2 : Lib.itoa (-3) = [45, 51] := by simp [Lib.itoa, Lib.decDigits]
  have h3 : Lib.itoa 2 = [50] := by simp [Lib.itoa, Lib.decDigits]
  unfold textR
  rw [if_pos h1, if_neg (by decide), h2, h3]; rfl
theorem parse_3 (w : World) (hw : RatW w) : Calls Tryd.prog 20 #[.string ⟨#[45, 51, 47, 50]⟩] w fun e w' => e = .returned (.tuple #[.agg #[.int .i64 (-3), .int .i64 2], .int .i64 0]) ∧ Below w.heap.size w w' :=
  parse_yes ⟨#[45, 51, 47, 50]⟩ w ⟨#[45, 51]⟩ ⟨#[50]⟩ true ⟨#[50]⟩ rfl (-3) 2 ⟨by omega, by omega⟩ ⟨by omega, by omega⟩ true (by rw [text_3]; decide +kernel) hw
    (Lib.hid fun w => cut_c ⟨#[45, 51, 47, 50]⟩ (by decide) w)
    (Lib.hid fun w1 _ => int_ok ⟨#[45, 51]⟩ (by decide) (-3) (by decide +kernel) w1) (Lib.hid fun w1 _ => int_ok ⟨#[50]⟩ (by decide) 2 (by decide +kernel) w1)
set_option maxHeartbeats 1600000 in
theorem wakes2_any (w : World) (hw : RatW w) : Calls Tryd.prog 13 #[] w fun e w' => e = .returned (.bool true) ∧ Below w.heap.size w w' := by
  have im : InI (-3) := ⟨by omega, by omega⟩
  have i2 : InI 2 := ⟨by omega, by omega⟩
  have HM := fun w => rmake_any 6 (-4) w ⟨by omega, by omega⟩ ⟨by omega, by omega⟩
  rw [show mkN 6 (-4) = -3 by decide +kernel, show mkD 6 (-4) = 2 by decide +kernel, show mkB 6 (-4) = true by decide +kernel] at HM
  have HF := fun w => rfloor_any (-3) 2 w im i2
  rw [show wholeR (-3) 2 false = -2 by decide +kernel] at HF
  have HC := fun w => rceil_any (-3) 2 w im i2
  rw [show wholeR (-3) 2 true = -1 by decide +kernel] at HC
  have HT := fun w' (hb : Below w.heap.size w w') => text_any (-3) 2 w' im i2 (hw.below hb)
  rw [text_3] at HT
  have HMc := Lib.hid HM
  have HFc := Lib.hid HF
  have HCc := Lib.hid HC
  have HTc := Lib.hid HT
  have HPc := Lib.hid (fun w' (hb : Below w.heap.size w w') => parse_3 w' (hw.below hb))
  clear HM HF HC HT im i2
  go_enter Tryd.func13, Tryd.ntmps13
  go_wp2_with fail
  refine (HMc.out _).mono ?_; rintro e v1 ⟨rfl, hb1⟩
  have st1 := bl_step (Below.refl _ _) hb1
  have bl1 := st1
  go_wp2_with fail
  refine (HPc.out _ (bl_alloc bl1 _)).mono ?_; rintro e v2 ⟨rfl, hb2⟩
  have st2 := bl_step (bl_alloc (Below.refl _ _) _) hb2
  have bl2 := bl_step bl1 st2
  have Br_2 : Blk v2 (v1.heap.size) 23 #[.int .i64 (-3), .int .i64 2] := (Blk.new _ _ _).below hb2
  have r_2_z : v1.heap.size < v2.heap.size := Br_2.lt
  have r_2_c0 : v2.cell? ⟨v1.heap.size, 0, none⟩ = some (.int .i64 (-3)) := (Br_2.cell 0).trans rfl
  have r_2_f0 := Br_2.frozen 0
  have r_2_c1 : v2.cell? ⟨v1.heap.size, 1, none⟩ = some (.int .i64 2) := (Br_2.cell 1).trans rfl
  have r_2_f1 := Br_2.frozen 1
  go_wp2_with fail
  refine (HFc.out _).mono ?_; rintro e v3 ⟨rfl, hb3⟩
  have st3 := bl_step (bl_alloc (Below.refl _ _) _) hb3
  have bl3 := bl_step bl2 st3
  have Bs_3 : Blk v3 (v2.heap.size) 23 #[.int .i64 (-3), .int .i64 2] := (Blk.new _ _ _).below hb3
  clear r_2_z r_2_c0 r_2_f0 r_2_c1 r_2_f1
  have Br_3 := Br_2.below st3
  have r_3_z : v1.heap.size < v3.heap.size := Br_3.lt
  have r_3_c0 : v3.cell? ⟨v1.heap.size, 0, none⟩ = some (.int .i64 (-3)) := (Br_3.cell 0).trans rfl
  have r_3_f0 := Br_3.frozen 0
  have r_3_c1 : v3.cell? ⟨v1.heap.size, 1, none⟩ = some (.int .i64 2) := (Br_3.cell 1).trans rfl
  have r_3_f1 := Br_3.frozen 1
  have s_3_z : v2.heap.size < v3.heap.size := Bs_3.lt
  have s_3_c0 : v3.cell? ⟨v2.heap.size, 0, none⟩ = some (.int .i64 (-3)) := (Bs_3.cell 0).trans rfl
  have s_3_f0 := Bs_3.frozen 0
  have s_3_c1 : v3.cell? ⟨v2.heap.size, 1, none⟩ = some (.int .i64 2) := (Bs_3.cell 1).trans rfl
  have s_3_f1 := Bs_3.frozen 1
  go_wp2_with fail
  refine (HCc.out _).mono ?_; rintro e v4 ⟨rfl, hb4⟩
  have st4 := bl_step (Below.refl _ _) hb4
  have bl4 := bl_step bl3 st4
  clear r_3_z r_3_c0 r_3_f0 r_3_c1 r_3_f1
  have Br_4 := Br_3.below st4
  clear s_3_z s_3_c0 s_3_f0 s_3_c1 s_3_f1
  have Bs_4 := Bs_3.below st4
  have r_4_z : v1.heap.size < v4.heap.size := Br_4.lt
  have r_4_c0 : v4.cell? ⟨v1.heap.size, 0, none⟩ = some (.int .i64 (-3)) := (Br_4.cell 0).trans rfl
  have r_4_f0 := Br_4.frozen 0
  have r_4_c1 : v4.cell? ⟨v1.heap.size, 1, none⟩ = some (.int .i64 2) := (Br_4.cell 1).trans rfl
  have r_4_f1 := Br_4.frozen 1
  have s_4_z : v2.heap.size < v4.heap.size := Bs_4.lt
  have s_4_c0 : v4.cell? ⟨v2.heap.size, 0, none⟩ = some (.int .i64 (-3)) := (Bs_4.cell 0).trans rfl
  have s_4_f0 := Bs_4.frozen 0
  have s_4_c1 : v4.cell? ⟨v2.heap.size, 1, none⟩ = some (.int .i64 2) := (Bs_4.cell 1).trans rfl
  have s_4_f1 := Bs_4.frozen 1
  go_wp2_with fail
  refine (HTc.out _ bl4).mono ?_; rintro e v5 ⟨rfl, hb5⟩
  have st5 := bl_step (Below.refl _ _) hb5
  have bl5 := bl_step bl4 st5
  clear r_4_z r_4_c0 r_4_f0 r_4_c1 r_4_f1
  have Br_5 := Br_4.below st5
  clear s_4_z s_4_c0 s_4_f0 s_4_c1 s_4_f1
  have Bs_5 := Bs_4.below st5
  have r_5_z : v1.heap.size < v5.heap.size := Br_5.lt
  have r_5_c0 : v5.cell? ⟨v1.heap.size, 0, none⟩ = some (.int .i64 (-3)) := (Br_5.cell 0).trans rfl
  have r_5_f0 := Br_5.frozen 0
  have r_5_c1 : v5.cell? ⟨v1.heap.size, 1, none⟩ = some (.int .i64 2) := (Br_5.cell 1).trans rfl
  have r_5_f1 := Br_5.frozen 1
  have s_5_z : v2.heap.size < v5.heap.size := Bs_5.lt
  have s_5_c0 : v5.cell? ⟨v2.heap.size, 0, none⟩ = some (.int .i64 (-3)) := (Bs_5.cell 0).trans rfl
  have s_5_f0 := Bs_5.frozen 0
  have s_5_c1 : v5.cell? ⟨v2.heap.size, 1, none⟩ = some (.int .i64 2) := (Bs_5.cell 1).trans rfl
  have s_5_f1 := Bs_5.frozen 1
  go_wp2
  go_ret
  exact ⟨rfl, bl5⟩
end Go.Proofs.YtkdklmkcanjjfaaDoor
