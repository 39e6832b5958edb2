/- The walks of the reference for layer 1: Cross. -/
import Derived.Test.YtkdklmkcanjjfaaDoorNumF
import Derived.Test.YtkdklmkcanjjfaaDoorRefF
namespace Go.Proofs.YtkdklmkcanjjfaaDoor
open Go.RowKit
set_option linter.unusedVariables false
set_option linter.unusedSimpArgs false
set_option maxRecDepth 100000

theorem BigV.zero (w : World) : BigV w false none 0 0 0 := ⟨[], ⟨rfl, Nat.le_refl _, by omega, (fun d hd => by cases hd), RdT.nil_ _ _ _⟩, (fun hh => absurd rfl hh), by simp, by simp [dval]⟩
theorem sm_int {a : Int} (h : InI a) : Sm a := sm_of (by have := h.1; omega) (by have := h.2; omega)
set_option maxHeartbeats 1600000 in
theorem BCross_any (a b c d : Int) (w : World) (ha : InI a) (hb : InI b) (hc : InI c) (hd : InI d) :
    Calls Tryd.prog 51 #[.int .i64 a, .int .i64 b, .int .i64 c, .int .i64 d] w fun e w' => e = .returned (.int .i64 (cmp3 (a * d) (c * b))) ∧ Below w.heap.size w w' := by
  have sa : Sm a := sm_int ha
  have sb : Sm b := sm_int hb
  have sc : Sm c := sm_int hc
  have sd : Sm d := sm_int hd
  go_enter Tryd.func51, Tryd.ntmps51
  go_wp2_with fail
  refine (Of_any _ _ ha).mono ?_; rintro e v1 ⟨n1, A1, m1, c1, rfl, k1, hb1⟩
  have st1 := bl_step (Below.refl _ _) hb1
  have bl1 := st1
  go_wp2_with fail
  refine (Of_any _ _ hb).mono ?_; rintro e v2 ⟨n2, A2, m2, c2, rfl, k2, hb2⟩
  have st2 := bl_step (bl_alloc (Below.refl _ _) _) hb2
  have bl2 := bl_step bl1 st2
  have Bw_2 : Blk v2 (v1.heap.size) 59 #[.bool n1, .slice A1 m1 c1] := (Blk.new _ _ _).below hb2
  have w_2_z : v1.heap.size < v2.heap.size := Bw_2.lt
  have w_2_c0 : v2.cell? ⟨v1.heap.size, 0, none⟩ = some (.bool n1) := (Bw_2.cell 0).trans rfl
  have w_2_f0 := Bw_2.frozen 0
  have w_2_c1 : v2.cell? ⟨v1.heap.size, 1, none⟩ = some (.slice A1 m1 c1) := (Bw_2.cell 1).trans rfl
  have w_2_f1 := Bw_2.frozen 1
  have w_2 := k1.below st2
  go_wp2_with fail
  refine (Of_any _ _ hc).mono ?_; rintro e v3 ⟨n3, A3, m3, c3, rfl, k3, hb3⟩
  have st3 := bl_step (bl_alloc (Below.refl _ _) _) hb3
  have bl3 := bl_step bl2 st3
  have Bx_3 : Blk v3 (v2.heap.size) 59 #[.bool n2, .slice A2 m2 c2] := (Blk.new _ _ _).below hb3
  clear w_2_z w_2_c0 w_2_f0 w_2_c1 w_2_f1
  have Bw_3 := Bw_2.below st3
  have w_3_z : v1.heap.size < v3.heap.size := Bw_3.lt
  have w_3_c0 : v3.cell? ⟨v1.heap.size, 0, none⟩ = some (.bool n1) := (Bw_3.cell 0).trans rfl
  have w_3_f0 := Bw_3.frozen 0
  have w_3_c1 : v3.cell? ⟨v1.heap.size, 1, none⟩ = some (.slice A1 m1 c1) := (Bw_3.cell 1).trans rfl
  have w_3_f1 := Bw_3.frozen 1
  have x_3_z : v2.heap.size < v3.heap.size := Bx_3.lt
  have x_3_c0 : v3.cell? ⟨v2.heap.size, 0, none⟩ = some (.bool n2) := (Bx_3.cell 0).trans rfl
  have x_3_f0 := Bx_3.frozen 0
  have x_3_c1 : v3.cell? ⟨v2.heap.size, 1, none⟩ = some (.slice A2 m2 c2) := (Bx_3.cell 1).trans rfl
  have x_3_f1 := Bx_3.frozen 1
  have w_3 := w_2.below st3
  have x_3 := k2.below st3
  go_wp2_with fail
  refine (Of_any _ _ hd).mono ?_; rintro e v4 ⟨n4, A4, m4, c4, rfl, k4, hb4⟩
  have st4 := bl_step (bl_alloc (Below.refl _ _) _) hb4
  have bl4 := bl_step bl3 st4
  have By_4 : Blk v4 (v3.heap.size) 59 #[.bool n3, .slice A3 m3 c3] := (Blk.new _ _ _).below hb4
  clear w_3_z w_3_c0 w_3_f0 w_3_c1 w_3_f1
  have Bw_4 := Bw_3.below st4
  clear x_3_z x_3_c0 x_3_f0 x_3_c1 x_3_f1
  have Bx_4 := Bx_3.below st4
  have w_4_z : v1.heap.size < v4.heap.size := Bw_4.lt
  have w_4_c0 : v4.cell? ⟨v1.heap.size, 0, none⟩ = some (.bool n1) := (Bw_4.cell 0).trans rfl
  have w_4_f0 := Bw_4.frozen 0
  have w_4_c1 : v4.cell? ⟨v1.heap.size, 1, none⟩ = some (.slice A1 m1 c1) := (Bw_4.cell 1).trans rfl
  have w_4_f1 := Bw_4.frozen 1
  have x_4_z : v2.heap.size < v4.heap.size := Bx_4.lt
  have x_4_c0 : v4.cell? ⟨v2.heap.size, 0, none⟩ = some (.bool n2) := (Bx_4.cell 0).trans rfl
  have x_4_f0 := Bx_4.frozen 0
  have x_4_c1 : v4.cell? ⟨v2.heap.size, 1, none⟩ = some (.slice A2 m2 c2) := (Bx_4.cell 1).trans rfl
  have x_4_f1 := Bx_4.frozen 1
  have y_4_z : v3.heap.size < v4.heap.size := By_4.lt
  have y_4_c0 : v4.cell? ⟨v3.heap.size, 0, none⟩ = some (.bool n3) := (By_4.cell 0).trans rfl
  have y_4_f0 := By_4.frozen 0
  have y_4_c1 : v4.cell? ⟨v3.heap.size, 1, none⟩ = some (.slice A3 m3 c3) := (By_4.cell 1).trans rfl
  have y_4_f1 := By_4.frozen 1
  have w_4 := w_3.below st4
  have x_4 := x_3.below st4
  have y_4 := k3.below st4
  have HP := Lib.hid (fun W hw => BMul_any _ _ _ _ _ _ _ _ a d W (w_4.below hw) (k4.below hw) sa sd)
  go_wp2_with fail
  refine (HP.out _ (bl_alloc (Below.refl _ _) _)).mono ?_; rintro e v5 ⟨n5, A5, m5, c5, rfl, k5, hb5⟩
  have st5 := bl_step (bl_alloc (Below.refl _ _) _) hb5
  have bl5 := bl_step bl4 st5
  have Bz_5 : Blk v5 (v4.heap.size) 59 #[.bool n4, .slice A4 m4 c4] := (Blk.new _ _ _).below hb5
  clear w_4_z w_4_c0 w_4_f0 w_4_c1 w_4_f1
  have Bw_5 := Bw_4.below st5
  clear x_4_z x_4_c0 x_4_f0 x_4_c1 x_4_f1
  have Bx_5 := Bx_4.below st5
  clear y_4_z y_4_c0 y_4_f0 y_4_c1 y_4_f1
  have By_5 := By_4.below st5
  have w_5_z : v1.heap.size < v5.heap.size := Bw_5.lt
  have w_5_c0 : v5.cell? ⟨v1.heap.size, 0, none⟩ = some (.bool n1) := (Bw_5.cell 0).trans rfl
  have w_5_f0 := Bw_5.frozen 0
  have w_5_c1 : v5.cell? ⟨v1.heap.size, 1, none⟩ = some (.slice A1 m1 c1) := (Bw_5.cell 1).trans rfl
  have w_5_f1 := Bw_5.frozen 1
  have x_5_z : v2.heap.size < v5.heap.size := Bx_5.lt
  have x_5_c0 : v5.cell? ⟨v2.heap.size, 0, none⟩ = some (.bool n2) := (Bx_5.cell 0).trans rfl
  have x_5_f0 := Bx_5.frozen 0
  have x_5_c1 : v5.cell? ⟨v2.heap.size, 1, none⟩ = some (.slice A2 m2 c2) := (Bx_5.cell 1).trans rfl
  have x_5_f1 := Bx_5.frozen 1
  have y_5_z : v3.heap.size < v5.heap.size := By_5.lt
  have y_5_c0 : v5.cell? ⟨v3.heap.size, 0, none⟩ = some (.bool n3) := (By_5.cell 0).trans rfl
  have y_5_f0 := By_5.frozen 0
  have y_5_c1 : v5.cell? ⟨v3.heap.size, 1, none⟩ = some (.slice A3 m3 c3) := (By_5.cell 1).trans rfl
  have y_5_f1 := By_5.frozen 1
  have z_5_z : v4.heap.size < v5.heap.size := Bz_5.lt
  have z_5_c0 : v5.cell? ⟨v4.heap.size, 0, none⟩ = some (.bool n4) := (Bz_5.cell 0).trans rfl
  have z_5_f0 := Bz_5.frozen 0
  have z_5_c1 : v5.cell? ⟨v4.heap.size, 1, none⟩ = some (.slice A4 m4 c4) := (Bz_5.cell 1).trans rfl
  have z_5_f1 := Bz_5.frozen 1
  have w_5 := w_4.below st5
  have x_5 := x_4.below st5
  have y_5 := y_4.below st5
  have z_5 := k4.below st5
  have HQ := Lib.hid (fun W hw => BMul_any _ _ _ _ _ _ _ _ c b W (y_5.below hw) (x_5.below hw) sc sb)
  go_wp2_with fail
  refine (HQ.out _ (bl_alloc (Below.refl _ _) _)).mono ?_; rintro e v6 ⟨n6, A6, m6, c6, rfl, k6, hb6⟩
  have st6 := bl_step (bl_alloc (Below.refl _ _) _) hb6
  have bl6 := bl_step bl5 st6
  have Bp_6 : Blk v6 (v5.heap.size) 59 #[.bool n5, .slice A5 m5 c5] := (Blk.new _ _ _).below hb6
  clear w_5_z w_5_c0 w_5_f0 w_5_c1 w_5_f1
  have Bw_6 := Bw_5.below st6
  clear x_5_z x_5_c0 x_5_f0 x_5_c1 x_5_f1
  have Bx_6 := Bx_5.below st6
  clear y_5_z y_5_c0 y_5_f0 y_5_c1 y_5_f1
  have By_6 := By_5.below st6
  clear z_5_z z_5_c0 z_5_f0 z_5_c1 z_5_f1
  have Bz_6 := Bz_5.below st6
  have w_6_z : v1.heap.size < v6.heap.size := Bw_6.lt
  have w_6_c0 : v6.cell? ⟨v1.heap.size, 0, none⟩ = some (.bool n1) := (Bw_6.cell 0).trans rfl
  have w_6_f0 := Bw_6.frozen 0
  have w_6_c1 : v6.cell? ⟨v1.heap.size, 1, none⟩ = some (.slice A1 m1 c1) := (Bw_6.cell 1).trans rfl
  have w_6_f1 := Bw_6.frozen 1
  have x_6_z : v2.heap.size < v6.heap.size := Bx_6.lt
  have x_6_c0 : v6.cell? ⟨v2.heap.size, 0, none⟩ = some (.bool n2) := (Bx_6.cell 0).trans rfl
  have x_6_f0 := Bx_6.frozen 0
  have x_6_c1 : v6.cell? ⟨v2.heap.size, 1, none⟩ = some (.slice A2 m2 c2) := (Bx_6.cell 1).trans rfl
  have x_6_f1 := Bx_6.frozen 1
  have y_6_z : v3.heap.size < v6.heap.size := By_6.lt
  have y_6_c0 : v6.cell? ⟨v3.heap.size, 0, none⟩ = some (.bool n3) := (By_6.cell 0).trans rfl
  have y_6_f0 := By_6.frozen 0
  have y_6_c1 : v6.cell? ⟨v3.heap.size, 1, none⟩ = some (.slice A3 m3 c3) := (By_6.cell 1).trans rfl
  have y_6_f1 := By_6.frozen 1
  have z_6_z : v4.heap.size < v6.heap.size := Bz_6.lt
  have z_6_c0 : v6.cell? ⟨v4.heap.size, 0, none⟩ = some (.bool n4) := (Bz_6.cell 0).trans rfl
  have z_6_f0 := Bz_6.frozen 0
  have z_6_c1 : v6.cell? ⟨v4.heap.size, 1, none⟩ = some (.slice A4 m4 c4) := (Bz_6.cell 1).trans rfl
  have z_6_f1 := Bz_6.frozen 1
  have p_6_z : v5.heap.size < v6.heap.size := Bp_6.lt
  have p_6_c0 : v6.cell? ⟨v5.heap.size, 0, none⟩ = some (.bool n5) := (Bp_6.cell 0).trans rfl
  have p_6_f0 := Bp_6.frozen 0
  have p_6_c1 : v6.cell? ⟨v5.heap.size, 1, none⟩ = some (.slice A5 m5 c5) := (Bp_6.cell 1).trans rfl
  have p_6_f1 := Bp_6.frozen 1
  have w_6 := w_5.below st6
  have x_6 := x_5.below st6
  have y_6 := y_5.below st6
  have z_6 := z_5.below st6
  have p_6 := k5.below st6
  have HR := Lib.hid (fun W hw => Cmp_any _ _ _ _ _ _ _ _ (a * d) (c * b) W (p_6.below hw) (k6.below hw))
  go_wp2_with fail
  refine (HR.out _ (bl_alloc (Below.refl _ _) _)).mono ?_; rintro e v7 ⟨rfl, hb7⟩
  have st7 := bl_step (bl_alloc (Below.refl _ _) _) hb7
  have bl7 := bl_step bl6 st7
  have Bq_7 : Blk v7 (v6.heap.size) 59 #[.bool n6, .slice A6 m6 c6] := (Blk.new _ _ _).below hb7
  clear w_6_z w_6_c0 w_6_f0 w_6_c1 w_6_f1
  have Bw_7 := Bw_6.below st7
  clear x_6_z x_6_c0 x_6_f0 x_6_c1 x_6_f1
  have Bx_7 := Bx_6.below st7
  clear y_6_z y_6_c0 y_6_f0 y_6_c1 y_6_f1
  have By_7 := By_6.below st7
  clear z_6_z z_6_c0 z_6_f0 z_6_c1 z_6_f1
  have Bz_7 := Bz_6.below st7
  clear p_6_z p_6_c0 p_6_f0 p_6_c1 p_6_f1
  have Bp_7 := Bp_6.below st7
  have w_7_z : v1.heap.size < v7.heap.size := Bw_7.lt
  have w_7_c0 : v7.cell? ⟨v1.heap.size, 0, none⟩ = some (.bool n1) := (Bw_7.cell 0).trans rfl
  have w_7_f0 := Bw_7.frozen 0
  have w_7_c1 : v7.cell? ⟨v1.heap.size, 1, none⟩ = some (.slice A1 m1 c1) := (Bw_7.cell 1).trans rfl
  have w_7_f1 := Bw_7.frozen 1
  have x_7_z : v2.heap.size < v7.heap.size := Bx_7.lt
  have x_7_c0 : v7.cell? ⟨v2.heap.size, 0, none⟩ = some (.bool n2) := (Bx_7.cell 0).trans rfl
  have x_7_f0 := Bx_7.frozen 0
  have x_7_c1 : v7.cell? ⟨v2.heap.size, 1, none⟩ = some (.slice A2 m2 c2) := (Bx_7.cell 1).trans rfl
  have x_7_f1 := Bx_7.frozen 1
  have y_7_z : v3.heap.size < v7.heap.size := By_7.lt
  have y_7_c0 : v7.cell? ⟨v3.heap.size, 0, none⟩ = some (.bool n3) := (By_7.cell 0).trans rfl
  have y_7_f0 := By_7.frozen 0
  have y_7_c1 : v7.cell? ⟨v3.heap.size, 1, none⟩ = some (.slice A3 m3 c3) := (By_7.cell 1).trans rfl
  have y_7_f1 := By_7.frozen 1
  have z_7_z : v4.heap.size < v7.heap.size := Bz_7.lt
  have z_7_c0 : v7.cell? ⟨v4.heap.size, 0, none⟩ = some (.bool n4) := (Bz_7.cell 0).trans rfl
  have z_7_f0 := Bz_7.frozen 0
  have z_7_c1 : v7.cell? ⟨v4.heap.size, 1, none⟩ = some (.slice A4 m4 c4) := (Bz_7.cell 1).trans rfl
  have z_7_f1 := Bz_7.frozen 1
  have p_7_z : v5.heap.size < v7.heap.size := Bp_7.lt
  have p_7_c0 : v7.cell? ⟨v5.heap.size, 0, none⟩ = some (.bool n5) := (Bp_7.cell 0).trans rfl
  have p_7_f0 := Bp_7.frozen 0
  have p_7_c1 : v7.cell? ⟨v5.heap.size, 1, none⟩ = some (.slice A5 m5 c5) := (Bp_7.cell 1).trans rfl
  have p_7_f1 := Bp_7.frozen 1
  have q_7_z : v6.heap.size < v7.heap.size := Bq_7.lt
  have q_7_c0 : v7.cell? ⟨v6.heap.size, 0, none⟩ = some (.bool n6) := (Bq_7.cell 0).trans rfl
  have q_7_f0 := Bq_7.frozen 0
  have q_7_c1 : v7.cell? ⟨v6.heap.size, 1, none⟩ = some (.slice A6 m6 c6) := (Bq_7.cell 1).trans rfl
  have q_7_f1 := Bq_7.frozen 1
  have w_7 := w_6.below st7
  have x_7 := x_6.below st7
  have y_7 := y_6.below st7
  have z_7 := z_6.below st7
  have p_7 := p_6.below st7
  have q_7 := k6.below st7
  go_wp2
  go_ret
  exact ⟨rfl, bl7⟩
end Go.Proofs.YtkdklmkcanjjfaaDoor
