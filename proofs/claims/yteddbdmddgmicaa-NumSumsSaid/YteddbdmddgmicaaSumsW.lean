/- The walk of NumSums: every sum, difference, product and opposite is the document's. -/
import Derived.Test.YteddbdmddgmicaaRefG
namespace Go.Proofs.Yteddbdmddgmicaa
open Go.RowKit
set_option linter.unusedVariables false
set_option linter.unusedSimpArgs false

set_option maxHeartbeats 6400000 in
set_option maxRecDepth 100000 in
theorem NumSums_walk (a b : Int) (w : World) (ha : InI a) (hb : InI b) : Calls Try.prog 5 #[.int .i64 a, .int .i64 b] w fun e w' => e = .returned (.bool true) ∧ Below w.heap.size w w' := by
  have sa : Sm a := sm_int ha
  have sb : Sm b := sm_int hb
  have so : Sm (-b) := sm_of (by have := hb.2; omega) (by have := hb.1; omega)
  go_enter Try.func5, Try.ntmps5
  go_wp2_with fail
  refine (Of_any _ _ ha).mono ?_; rintro e v1 ⟨n1, A1, m1, c1, rfl, k1, hb1⟩
  have st1 := bl_step (Below.refl _ _) hb1
  have bl1 := st1
  go_wp2_with fail
  refine (Of_any _ _ hb).mono ?_; rintro e v2 ⟨n2, A2, m2, c2, rfl, k2, hb2⟩
  have st2 := bl_step (Below.refl _ _) hb2
  have bl2 := bl_step bl1 st2
  have x_2 := k1.below st2
  go_wp2_with fail
  refine (Add_any _ _ _ ha hb).mono ?_; rintro e v3 ⟨rfl, hb3⟩
  have st3 := bl_step (bl_alloc (bl_alloc (Below.refl _ _) _) _) hb3
  have bl3 := bl_step bl2 st3
  have Bx_3 : Blk v3 (v2.heap.size) 31 #[.bool n1, .slice A1 m1 c1] := ((Blk.new _ _ _).alloc _).below hb3
  have By_3 : Blk v3 (v2.heap.size + 1) 31 #[.bool n2, .slice A2 m2 c2] := (Blk.new' (by simp) _ _).below hb3
  have x_3_z : v2.heap.size < v3.heap.size := Bx_3.lt
  have x_3_c0 : v3.cell? ⟨v2.heap.size, 0, none⟩ = some (.bool n1) := (Bx_3.cell 0).trans rfl
  have x_3_f0 := Bx_3.frozen 0
  have x_3_c1 : v3.cell? ⟨v2.heap.size, 1, none⟩ = some (.slice A1 m1 c1) := (Bx_3.cell 1).trans rfl
  have x_3_f1 := Bx_3.frozen 1
  have y_3_z : v2.heap.size + 1 < v3.heap.size := By_3.lt
  have y_3_c0 : v3.cell? ⟨v2.heap.size + 1, 0, none⟩ = some (.bool n2) := (By_3.cell 0).trans rfl
  have y_3_f0 := By_3.frozen 0
  have y_3_c1 : v3.cell? ⟨v2.heap.size + 1, 1, none⟩ = some (.slice A2 m2 c2) := (By_3.cell 1).trans rfl
  have y_3_f1 := By_3.frozen 1
  have x_3 := x_2.below st3
  have y_3 := k2.below st3
  have HA := Lib.hid (BAdd_any _ _ _ _ _ _ _ _ a b _ x_3 y_3 sa sb)
  go_wp2_with fail
  refine (HA.out).mono ?_; rintro e v4 ⟨n4, A4, m4, c4, rfl, k4, hb4⟩
  have st4 := bl_step (Below.refl _ _) hb4
  have bl4 := bl_step bl3 st4
  clear x_3_z x_3_c0 x_3_f0 x_3_c1 x_3_f1
  have Bx_4 := Bx_3.below st4
  clear y_3_z y_3_c0 y_3_f0 y_3_c1 y_3_f1
  have By_4 := By_3.below st4
  have x_4_z : v2.heap.size < v4.heap.size := Bx_4.lt
  have x_4_c0 : v4.cell? ⟨v2.heap.size, 0, none⟩ = some (.bool n1) := (Bx_4.cell 0).trans rfl
  have x_4_f0 := Bx_4.frozen 0
  have x_4_c1 : v4.cell? ⟨v2.heap.size, 1, none⟩ = some (.slice A1 m1 c1) := (Bx_4.cell 1).trans rfl
  have x_4_f1 := Bx_4.frozen 1
  have y_4_z : v2.heap.size + 1 < v4.heap.size := By_4.lt
  have y_4_c0 : v4.cell? ⟨v2.heap.size + 1, 0, none⟩ = some (.bool n2) := (By_4.cell 0).trans rfl
  have y_4_f0 := By_4.frozen 0
  have y_4_c1 : v4.cell? ⟨v2.heap.size + 1, 1, none⟩ = some (.slice A2 m2 c2) := (By_4.cell 1).trans rfl
  have y_4_f1 := By_4.frozen 1
  have x_4 := x_3.below st4
  have y_4 := y_3.below st4
  have HS := Lib.hid (Short_any _ _ _ _ _ _ k4)
  go_wp2_with fail
  refine (HS.out).mono ?_; rintro e v5 ⟨rfl, hb5⟩
  have st5 := bl_step (Below.refl _ _) hb5
  have bl5 := bl_step bl4 st5
  clear x_4_z x_4_c0 x_4_f0 x_4_c1 x_4_f1
  have Bx_5 := Bx_4.below st5
  clear y_4_z y_4_c0 y_4_f0 y_4_c1 y_4_f1
  have By_5 := By_4.below st5
  have x_5_z : v2.heap.size < v5.heap.size := Bx_5.lt
  have x_5_c0 : v5.cell? ⟨v2.heap.size, 0, none⟩ = some (.bool n1) := (Bx_5.cell 0).trans rfl
  have x_5_f0 := Bx_5.frozen 0
  have x_5_c1 : v5.cell? ⟨v2.heap.size, 1, none⟩ = some (.slice A1 m1 c1) := (Bx_5.cell 1).trans rfl
  have x_5_f1 := Bx_5.frozen 1
  have y_5_z : v2.heap.size + 1 < v5.heap.size := By_5.lt
  have y_5_c0 : v5.cell? ⟨v2.heap.size + 1, 0, none⟩ = some (.bool n2) := (By_5.cell 0).trans rfl
  have y_5_f0 := By_5.frozen 0
  have y_5_c1 : v5.cell? ⟨v2.heap.size + 1, 1, none⟩ = some (.slice A2 m2 c2) := (By_5.cell 1).trans rfl
  have y_5_f1 := By_5.frozen 1
  have x_5 := x_4.below st5
  have y_5 := y_4.below st5
  have s_5 := k4.below st5
  go_wp2_with fail
  refine (Sub_any _ _ _ ha hb).mono ?_; rintro e v6 ⟨rfl, hb6⟩
  have st6 := bl_step (Below.refl _ _) hb6
  have bl6 := bl_step bl5 st6
  clear x_5_z x_5_c0 x_5_f0 x_5_c1 x_5_f1
  have Bx_6 := Bx_5.below st6
  clear y_5_z y_5_c0 y_5_f0 y_5_c1 y_5_f1
  have By_6 := By_5.below st6
  have x_6_z : v2.heap.size < v6.heap.size := Bx_6.lt
  have x_6_c0 : v6.cell? ⟨v2.heap.size, 0, none⟩ = some (.bool n1) := (Bx_6.cell 0).trans rfl
  have x_6_f0 := Bx_6.frozen 0
  have x_6_c1 : v6.cell? ⟨v2.heap.size, 1, none⟩ = some (.slice A1 m1 c1) := (Bx_6.cell 1).trans rfl
  have x_6_f1 := Bx_6.frozen 1
  have y_6_z : v2.heap.size + 1 < v6.heap.size := By_6.lt
  have y_6_c0 : v6.cell? ⟨v2.heap.size + 1, 0, none⟩ = some (.bool n2) := (By_6.cell 0).trans rfl
  have y_6_f0 := By_6.frozen 0
  have y_6_c1 : v6.cell? ⟨v2.heap.size + 1, 1, none⟩ = some (.slice A2 m2 c2) := (By_6.cell 1).trans rfl
  have y_6_f1 := By_6.frozen 1
  have x_6 := x_5.below st6
  have y_6 := y_5.below st6
  have s_6 := s_5.below st6
  go_wp2_with fail
  go_region_held3 (fun w' => w'.cell? ⟨v2.heap.size, 0, none⟩ = some (.bool n1) ∧ w'.cell? ⟨v2.heap.size, 1, none⟩ = some (.slice A1 m1 c1) ∧ w'.cell? ⟨v2.heap.size + 1, 0, none⟩ = some (.bool n2) ∧ w'.cell? ⟨v2.heap.size + 1, 1, none⟩ = some (.slice A2 m2 c2)) (go_keep) (first | (go_at_call 20; refine (Opposite_any _ _ _ _ _ _ y_6.drew).mono ?_; rintro e v7 ⟨n7, A7, m7, c7, rfl, k7, hb7⟩; have st7 := bl_step (bl_drew (Below.refl _ _)) hb7; have bl7 := bl_step bl6 st7; have Bx_7 := Bx_6.below st7; clear x_6_z x_6_c0 x_6_f0 x_6_c1 x_6_f1; have x_7_z : v2.heap.size < v7.heap.size := Bx_7.lt; have x_7_c0 : v7.cell? ⟨v2.heap.size, 0, none⟩ = some (.bool n1) := (Bx_7.cell 0).trans rfl; have x_7_f0 := Bx_7.frozen 0; have x_7_c1 : v7.cell? ⟨v2.heap.size, 1, none⟩ = some (.slice A1 m1 c1) := (Bx_7.cell 1).trans rfl; have x_7_f1 := Bx_7.frozen 1; have By_7 := By_6.below st7; clear y_6_z y_6_c0 y_6_f0 y_6_c1 y_6_f1; have y_7_z : v2.heap.size + 1 < v7.heap.size := By_7.lt; have y_7_c0 : v7.cell? ⟨v2.heap.size + 1, 0, none⟩ = some (.bool n2) := (By_7.cell 0).trans rfl; have y_7_f0 := By_7.frozen 0; have y_7_c1 : v7.cell? ⟨v2.heap.size + 1, 1, none⟩ = some (.slice A2 m2 c2) := (By_7.cell 1).trans rfl; have y_7_f1 := By_7.frozen 1; have x_7 := x_6.below st7; have y_7 := y_6.below st7; have s_7 := s_6.below st7) | (go_at_call 19; refine (BAdd_any _ _ _ _ _ _ _ _ a (-b) _ x_7 k7 sa so).mono ?_; rintro e v8 ⟨n8, A8, m8, c8, rfl, k8, hb8⟩; have st8 := bl_step (Below.refl _ _) hb8; have bl8 := bl_step bl7 st8; have Bx_8 := Bx_7.below st8; clear x_7_z x_7_c0 x_7_f0 x_7_c1 x_7_f1; have x_8_z : v2.heap.size < v8.heap.size := Bx_8.lt; have x_8_c0 : v8.cell? ⟨v2.heap.size, 0, none⟩ = some (.bool n1) := (Bx_8.cell 0).trans rfl; have x_8_f0 := Bx_8.frozen 0; have x_8_c1 : v8.cell? ⟨v2.heap.size, 1, none⟩ = some (.slice A1 m1 c1) := (Bx_8.cell 1).trans rfl; have x_8_f1 := Bx_8.frozen 1; have By_8 := By_7.below st8; clear y_7_z y_7_c0 y_7_f0 y_7_c1 y_7_f1; have y_8_z : v2.heap.size + 1 < v8.heap.size := By_8.lt; have y_8_c0 : v8.cell? ⟨v2.heap.size + 1, 0, none⟩ = some (.bool n2) := (By_8.cell 0).trans rfl; have y_8_f0 := By_8.frozen 0; have y_8_c1 : v8.cell? ⟨v2.heap.size + 1, 1, none⟩ = some (.slice A2 m2 c2) := (By_8.cell 1).trans rfl; have y_8_f1 := By_8.frozen 1; have x_8 := x_7.below st8; have y_8 := y_7.below st8; have s_8 := s_7.below st8; have o_8 := k7.below st8) | (go_at_call 18; refine (Short_any _ _ _ _ _ _ k8).mono ?_; rintro e v9 ⟨rfl, hb9⟩; have st9 := bl_step (Below.refl _ _) hb9; have bl9 := bl_step bl8 st9; have Bx_9 := Bx_8.below st9; clear x_8_z x_8_c0 x_8_f0 x_8_c1 x_8_f1; have x_9_z : v2.heap.size < v9.heap.size := Bx_9.lt; have x_9_c0 : v9.cell? ⟨v2.heap.size, 0, none⟩ = some (.bool n1) := (Bx_9.cell 0).trans rfl; have x_9_f0 := Bx_9.frozen 0; have x_9_c1 : v9.cell? ⟨v2.heap.size, 1, none⟩ = some (.slice A1 m1 c1) := (Bx_9.cell 1).trans rfl; have x_9_f1 := Bx_9.frozen 1; have By_9 := By_8.below st9; clear y_8_z y_8_c0 y_8_f0 y_8_c1 y_8_f1; have y_9_z : v2.heap.size + 1 < v9.heap.size := By_9.lt; have y_9_c0 : v9.cell? ⟨v2.heap.size + 1, 0, none⟩ = some (.bool n2) := (By_9.cell 0).trans rfl; have y_9_f0 := By_9.frozen 0; have y_9_c1 : v9.cell? ⟨v2.heap.size + 1, 1, none⟩ = some (.slice A2 m2 c2) := (By_9.cell 1).trans rfl; have y_9_f1 := By_9.frozen 1; have x_9 := x_8.below st9; have y_9 := y_8.below st9; have s_9 := s_8.below st9; have o_9 := o_8.below st9; have d_9 := k8.below st9))
  go_wp2_with fail
  refine (Mul_any _ _ _ ha hb).mono ?_; rintro e v10 ⟨rfl, hb10⟩
  have st10 := bl_step (Below.refl _ _) hb10
  have bl10 := bl_step bl9 st10
  clear x_9_z x_9_c0 x_9_f0 x_9_c1 x_9_f1
  have Bx_10 := Bx_9.below st10
  clear y_9_z y_9_c0 y_9_f0 y_9_c1 y_9_f1
  have By_10 := By_9.below st10
  have x_10_z : v2.heap.size < v10.heap.size := Bx_10.lt
  have x_10_c0 : v10.cell? ⟨v2.heap.size, 0, none⟩ = some (.bool n1) := (Bx_10.cell 0).trans rfl
  have x_10_f0 := Bx_10.frozen 0
  have x_10_c1 : v10.cell? ⟨v2.heap.size, 1, none⟩ = some (.slice A1 m1 c1) := (Bx_10.cell 1).trans rfl
  have x_10_f1 := Bx_10.frozen 1
  have y_10_z : v2.heap.size + 1 < v10.heap.size := By_10.lt
  have y_10_c0 : v10.cell? ⟨v2.heap.size + 1, 0, none⟩ = some (.bool n2) := (By_10.cell 0).trans rfl
  have y_10_f0 := By_10.frozen 0
  have y_10_c1 : v10.cell? ⟨v2.heap.size + 1, 1, none⟩ = some (.slice A2 m2 c2) := (By_10.cell 1).trans rfl
  have y_10_f1 := By_10.frozen 1
  have x_10 := x_9.below st10
  have y_10 := y_9.below st10
  have s_10 := s_9.below st10
  have o_10 := o_9.below st10
  have d_10 := d_9.below st10
  have HM := Lib.hid (BMul_any _ _ _ _ _ _ _ _ a b _ x_10 y_10 sa sb)
  go_wp2_with fail
  refine (HM.out).mono ?_; rintro e v11 ⟨n11, A11, m11, c11, rfl, k11, hb11⟩
  have st11 := bl_step (Below.refl _ _) hb11
  have bl11 := bl_step bl10 st11
  clear x_10_z x_10_c0 x_10_f0 x_10_c1 x_10_f1
  have Bx_11 := Bx_10.below st11
  clear y_10_z y_10_c0 y_10_f0 y_10_c1 y_10_f1
  have By_11 := By_10.below st11
  have x_11_z : v2.heap.size < v11.heap.size := Bx_11.lt
  have x_11_c0 : v11.cell? ⟨v2.heap.size, 0, none⟩ = some (.bool n1) := (Bx_11.cell 0).trans rfl
  have x_11_f0 := Bx_11.frozen 0
  have x_11_c1 : v11.cell? ⟨v2.heap.size, 1, none⟩ = some (.slice A1 m1 c1) := (Bx_11.cell 1).trans rfl
  have x_11_f1 := Bx_11.frozen 1
  have y_11_z : v2.heap.size + 1 < v11.heap.size := By_11.lt
  have y_11_c0 : v11.cell? ⟨v2.heap.size + 1, 0, none⟩ = some (.bool n2) := (By_11.cell 0).trans rfl
  have y_11_f0 := By_11.frozen 0
  have y_11_c1 : v11.cell? ⟨v2.heap.size + 1, 1, none⟩ = some (.slice A2 m2 c2) := (By_11.cell 1).trans rfl
  have y_11_f1 := By_11.frozen 1
  have x_11 := x_10.below st11
  have y_11 := y_10.below st11
  have s_11 := s_10.below st11
  have o_11 := o_10.below st11
  have d_11 := d_10.below st11
  have HP := Lib.hid (Short_any _ _ _ _ _ _ k11)
  go_wp2_with fail
  refine (HP.out).mono ?_; rintro e v12 ⟨rfl, hb12⟩
  have st12 := bl_step (Below.refl _ _) hb12
  have bl12 := bl_step bl11 st12
  clear x_11_z x_11_c0 x_11_f0 x_11_c1 x_11_f1
  have Bx_12 := Bx_11.below st12
  clear y_11_z y_11_c0 y_11_f0 y_11_c1 y_11_f1
  have By_12 := By_11.below st12
  have x_12_z : v2.heap.size < v12.heap.size := Bx_12.lt
  have x_12_c0 : v12.cell? ⟨v2.heap.size, 0, none⟩ = some (.bool n1) := (Bx_12.cell 0).trans rfl
  have x_12_f0 := Bx_12.frozen 0
  have x_12_c1 : v12.cell? ⟨v2.heap.size, 1, none⟩ = some (.slice A1 m1 c1) := (Bx_12.cell 1).trans rfl
  have x_12_f1 := Bx_12.frozen 1
  have y_12_z : v2.heap.size + 1 < v12.heap.size := By_12.lt
  have y_12_c0 : v12.cell? ⟨v2.heap.size + 1, 0, none⟩ = some (.bool n2) := (By_12.cell 0).trans rfl
  have y_12_f0 := By_12.frozen 0
  have y_12_c1 : v12.cell? ⟨v2.heap.size + 1, 1, none⟩ = some (.slice A2 m2 c2) := (By_12.cell 1).trans rfl
  have y_12_f1 := By_12.frozen 1
  have x_12 := x_11.below st12
  have y_12 := y_11.below st12
  have s_12 := s_11.below st12
  have o_12 := o_11.below st12
  have d_12 := d_11.below st12
  have p_12 := k11.below st12
  go_wp2_with fail
  refine (Neg_any _ _ ha).mono ?_; rintro e v13 ⟨rfl, hb13⟩
  have st13 := bl_step (Below.refl _ _) hb13
  have bl13 := bl_step bl12 st13
  clear x_12_z x_12_c0 x_12_f0 x_12_c1 x_12_f1
  have Bx_13 := Bx_12.below st13
  clear y_12_z y_12_c0 y_12_f0 y_12_c1 y_12_f1
  have By_13 := By_12.below st13
  have x_13_z : v2.heap.size < v13.heap.size := Bx_13.lt
  have x_13_c0 : v13.cell? ⟨v2.heap.size, 0, none⟩ = some (.bool n1) := (Bx_13.cell 0).trans rfl
  have x_13_f0 := Bx_13.frozen 0
  have x_13_c1 : v13.cell? ⟨v2.heap.size, 1, none⟩ = some (.slice A1 m1 c1) := (Bx_13.cell 1).trans rfl
  have x_13_f1 := Bx_13.frozen 1
  have y_13_z : v2.heap.size + 1 < v13.heap.size := By_13.lt
  have y_13_c0 : v13.cell? ⟨v2.heap.size + 1, 0, none⟩ = some (.bool n2) := (By_13.cell 0).trans rfl
  have y_13_f0 := By_13.frozen 0
  have y_13_c1 : v13.cell? ⟨v2.heap.size + 1, 1, none⟩ = some (.slice A2 m2 c2) := (By_13.cell 1).trans rfl
  have y_13_f1 := By_13.frozen 1
  have x_13 := x_12.below st13
  have y_13 := y_12.below st13
  have s_13 := s_12.below st13
  have o_13 := o_12.below st13
  have d_13 := d_12.below st13
  have p_13 := p_12.below st13
  have HO := Lib.hid (Opposite_any _ _ _ _ _ _ x_13)
  go_wp2_with fail
  refine (HO.out).mono ?_; rintro e v14 ⟨n14, A14, m14, c14, rfl, k14, hb14⟩
  have st14 := bl_step (Below.refl _ _) hb14
  have bl14 := bl_step bl13 st14
  clear x_13_z x_13_c0 x_13_f0 x_13_c1 x_13_f1
  have Bx_14 := Bx_13.below st14
  clear y_13_z y_13_c0 y_13_f0 y_13_c1 y_13_f1
  have By_14 := By_13.below st14
  have x_14_z : v2.heap.size < v14.heap.size := Bx_14.lt
  have x_14_c0 : v14.cell? ⟨v2.heap.size, 0, none⟩ = some (.bool n1) := (Bx_14.cell 0).trans rfl
  have x_14_f0 := Bx_14.frozen 0
  have x_14_c1 : v14.cell? ⟨v2.heap.size, 1, none⟩ = some (.slice A1 m1 c1) := (Bx_14.cell 1).trans rfl
  have x_14_f1 := Bx_14.frozen 1
  have y_14_z : v2.heap.size + 1 < v14.heap.size := By_14.lt
  have y_14_c0 : v14.cell? ⟨v2.heap.size + 1, 0, none⟩ = some (.bool n2) := (By_14.cell 0).trans rfl
  have y_14_f0 := By_14.frozen 0
  have y_14_c1 : v14.cell? ⟨v2.heap.size + 1, 1, none⟩ = some (.slice A2 m2 c2) := (By_14.cell 1).trans rfl
  have y_14_f1 := By_14.frozen 1
  have x_14 := x_13.below st14
  have y_14 := y_13.below st14
  have s_14 := s_13.below st14
  have o_14 := o_13.below st14
  have d_14 := d_13.below st14
  have p_14 := p_13.below st14
  have HQ := Lib.hid (Short_any _ _ _ _ _ _ k14)
  go_wp2_with fail
  refine (HQ.out).mono ?_; rintro e v15 ⟨rfl, hb15⟩
  have st15 := bl_step (Below.refl _ _) hb15
  have bl15 := bl_step bl14 st15
  clear x_14_z x_14_c0 x_14_f0 x_14_c1 x_14_f1
  have Bx_15 := Bx_14.below st15
  clear y_14_z y_14_c0 y_14_f0 y_14_c1 y_14_f1
  have By_15 := By_14.below st15
  have x_15_z : v2.heap.size < v15.heap.size := Bx_15.lt
  have x_15_c0 : v15.cell? ⟨v2.heap.size, 0, none⟩ = some (.bool n1) := (Bx_15.cell 0).trans rfl
  have x_15_f0 := Bx_15.frozen 0
  have x_15_c1 : v15.cell? ⟨v2.heap.size, 1, none⟩ = some (.slice A1 m1 c1) := (Bx_15.cell 1).trans rfl
  have x_15_f1 := Bx_15.frozen 1
  have y_15_z : v2.heap.size + 1 < v15.heap.size := By_15.lt
  have y_15_c0 : v15.cell? ⟨v2.heap.size + 1, 0, none⟩ = some (.bool n2) := (By_15.cell 0).trans rfl
  have y_15_f0 := By_15.frozen 0
  have y_15_c1 : v15.cell? ⟨v2.heap.size + 1, 1, none⟩ = some (.slice A2 m2 c2) := (By_15.cell 1).trans rfl
  have y_15_f1 := By_15.frozen 1
  have x_15 := x_14.below st15
  have y_15 := y_14.below st15
  have s_15 := s_14.below st15
  have o_15 := o_14.below st15
  have d_15 := d_14.below st15
  have p_15 := p_14.below st15
  have n_15 := k14.below st15
  go_wp2_with fail
  refine (wakes_any _).mono ?_; rintro e v16 ⟨rfl, hb16⟩
  have st16 := bl_step (Below.refl _ _) hb16
  have bl16 := bl_step bl15 st16
  clear x_15_z x_15_c0 x_15_f0 x_15_c1 x_15_f1
  have Bx_16 := Bx_15.below st16
  clear y_15_z y_15_c0 y_15_f0 y_15_c1 y_15_f1
  have By_16 := By_15.below st16
  have x_16_z : v2.heap.size < v16.heap.size := Bx_16.lt
  have x_16_c0 : v16.cell? ⟨v2.heap.size, 0, none⟩ = some (.bool n1) := (Bx_16.cell 0).trans rfl
  have x_16_f0 := Bx_16.frozen 0
  have x_16_c1 : v16.cell? ⟨v2.heap.size, 1, none⟩ = some (.slice A1 m1 c1) := (Bx_16.cell 1).trans rfl
  have x_16_f1 := Bx_16.frozen 1
  have y_16_z : v2.heap.size + 1 < v16.heap.size := By_16.lt
  have y_16_c0 : v16.cell? ⟨v2.heap.size + 1, 0, none⟩ = some (.bool n2) := (By_16.cell 0).trans rfl
  have y_16_f0 := By_16.frozen 0
  have y_16_c1 : v16.cell? ⟨v2.heap.size + 1, 1, none⟩ = some (.slice A2 m2 c2) := (By_16.cell 1).trans rfl
  have y_16_f1 := By_16.frozen 1
  have x_16 := x_15.below st16
  have y_16 := y_15.below st16
  have s_16 := s_15.below st16
  have o_16 := o_15.below st16
  have d_16 := d_15.below st16
  have p_16 := p_15.below st16
  have n_16 := n_15.below st16
  go_wp2
  go_ret
  exact ⟨rfl, bl16⟩
end Go.Proofs.Yteddbdmddgmicaa
