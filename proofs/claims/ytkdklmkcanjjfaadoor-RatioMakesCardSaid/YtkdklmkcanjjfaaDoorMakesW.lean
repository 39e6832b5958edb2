/- The walk of RatioMakes: the good ratio of every two numbers, and which ratios are good, is the document's, or there is none. -/
import Derived.Test.YtkdklmkcanjjfaaDoorRatF
namespace Go.Proofs.YtkdklmkcanjjfaaDoor
open Go.RowKit
set_option linter.unusedVariables false
set_option linter.unusedSimpArgs false
set_option maxRecDepth 100000

set_option maxHeartbeats 3200000 in
theorem RatioMakes_walk (a b : Int) (w : World) (hw : RatW w) (ia : InI a) (ib : InI b) :
    Calls Tryd.prog 3 #[.int .i64 a, .int .i64 b] w fun e w' => e = .returned (.bool true) ∧ Below w.heap.size w w' := by
  have HM := Lib.hid (fun w => rmake_any a b w ia ib)
  have HN := Lib.hid (fun w => bmake_any a b w ia ib)
  have HW := Lib.hid (fun w' (hb : Below w.heap.size w w') => wakes2_any w' (hw.below hb))
  have HG := Lib.hid (fun w => good_any a b w ia ib)
  have HH := Lib.hid (fun w => bgood_any a b w ia ib)
  have HO := Lib.hid (fun w => rof_any a w)
  generalize mkN a b = n at HM HN
  generalize mkD a b = d at HM HN
  generalize mkB a b = x at HM HN
  generalize goodB a b = y at HG HH
  cases x <;> cases y
  all_goals
    go_enter Tryd.func3, Tryd.ntmps3
    go_wp2_with fail
    refine (HM.out _).mono ?_; rintro e v1 ⟨rfl, hb1⟩
    have st1 := bl_step (Below.refl _ _) hb1
    have bl1 := st1
    go_wp2_with fail
    refine (HN.out _).mono ?_; rintro e v2 ⟨rfl, hb2⟩
    have st2 := bl_step (bl_alloc (Below.refl _ _) _) hb2
    have bl2 := bl_step bl1 st2
    have Br_2 : Blk v2 (v1.heap.size) 23 #[.int .i64 n, .int .i64 d] := (Blk.new _ _ _).below hb2
    have r_2_z : v1.heap.size < v2.heap.size := Br_2.lt
    have r_2_c0 : v2.cell? ⟨v1.heap.size, 0, none⟩ = some (.int .i64 n) := (Br_2.cell 0).trans rfl
    have r_2_f0 := Br_2.frozen 0
    have r_2_c1 : v2.cell? ⟨v1.heap.size, 1, none⟩ = some (.int .i64 d) := (Br_2.cell 1).trans rfl
    have r_2_f1 := Br_2.frozen 1
    go_wp2_with fail
    refine (HW.out _ bl2).mono ?_; rintro e v3 ⟨rfl, hb3⟩
    have st3 := bl_step (Below.refl _ _) hb3
    have bl3 := bl_step bl2 st3
    clear r_2_z r_2_c0 r_2_f0 r_2_c1 r_2_f1
    have Br_3 := Br_2.below st3
    have r_3_z : v1.heap.size < v3.heap.size := Br_3.lt
    have r_3_c0 : v3.cell? ⟨v1.heap.size, 0, none⟩ = some (.int .i64 n) := (Br_3.cell 0).trans rfl
    have r_3_f0 := Br_3.frozen 0
    have r_3_c1 : v3.cell? ⟨v1.heap.size, 1, none⟩ = some (.int .i64 d) := (Br_3.cell 1).trans rfl
    have r_3_f1 := Br_3.frozen 1
    go_wp2_with fail
    refine (HG.out _).mono ?_; rintro e v4 ⟨rfl, hb4⟩
    have st4 := bl_step (Below.refl _ _) hb4
    have bl4 := bl_step bl3 st4
    clear r_3_z r_3_c0 r_3_f0 r_3_c1 r_3_f1
    have Br_4 := Br_3.below st4
    have r_4_z : v1.heap.size < v4.heap.size := Br_4.lt
    have r_4_c0 : v4.cell? ⟨v1.heap.size, 0, none⟩ = some (.int .i64 n) := (Br_4.cell 0).trans rfl
    have r_4_f0 := Br_4.frozen 0
    have r_4_c1 : v4.cell? ⟨v1.heap.size, 1, none⟩ = some (.int .i64 d) := (Br_4.cell 1).trans rfl
    have r_4_f1 := Br_4.frozen 1
    go_wp2_with fail
    refine (HH.out _).mono ?_; rintro e v5 ⟨rfl, hb5⟩
    have st5 := bl_step (Below.refl _ _) hb5
    have bl5 := bl_step bl4 st5
    clear r_4_z r_4_c0 r_4_f0 r_4_c1 r_4_f1
    have Br_5 := Br_4.below st5
    have r_5_z : v1.heap.size < v5.heap.size := Br_5.lt
    have r_5_c0 : v5.cell? ⟨v1.heap.size, 0, none⟩ = some (.int .i64 n) := (Br_5.cell 0).trans rfl
    have r_5_f0 := Br_5.frozen 0
    have r_5_c1 : v5.cell? ⟨v1.heap.size, 1, none⟩ = some (.int .i64 d) := (Br_5.cell 1).trans rfl
    have r_5_f1 := Br_5.frozen 1
    go_wp2_with fail
    refine (HO.out _).mono ?_; rintro e v6 ⟨rfl, hb6⟩
    have st6 := bl_step (Below.refl _ _) hb6
    have bl6 := bl_step bl5 st6
    clear r_5_z r_5_c0 r_5_f0 r_5_c1 r_5_f1
    have Br_6 := Br_5.below st6
    have r_6_z : v1.heap.size < v6.heap.size := Br_6.lt
    have r_6_c0 : v6.cell? ⟨v1.heap.size, 0, none⟩ = some (.int .i64 n) := (Br_6.cell 0).trans rfl
    have r_6_f0 := Br_6.frozen 0
    have r_6_c1 : v6.cell? ⟨v1.heap.size, 1, none⟩ = some (.int .i64 d) := (Br_6.cell 1).trans rfl
    have r_6_f1 := Br_6.frozen 1
    go_wp2
    go_ret
    exact ⟨rfl, bl6⟩
end Go.Proofs.YtkdklmkcanjjfaaDoor
