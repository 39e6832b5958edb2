/- The walks of ratio, part U: Simplest. -/
import Derived.Test.YtkdklmkcanjjfaaDoorRatT
namespace Go.Proofs.YtkdklmkcanjjfaaDoor
open Go.RowKit
set_option linter.unusedVariables false
set_option linter.unusedSimpArgs false
set_option maxRecDepth 100000

theorem turned_any (n d : Int) (w : World) (h1 : -9223372036854775807 ≤ n) (h2 : n ≤ 9223372036854775807) :
    Calls Tryd.prog 63 #[.agg #[.int .i64 n, .int .i64 d]] w fun e w' => e = .returned (.agg #[.int .i64 (-n), .int .i64 d]) ∧ Below w.heap.size w w' := by
  go_enter Tryd.func63, Tryd.ntmps63
  go_wp2
  refine bodyPost_ret (v := .agg #[.int .i64 (-n), .int .i64 d]) (by simp [results, Tryd.results63, go_sem]) rfl ⟨rfl, ?_⟩
  (repeat (first | exact Below.refl _ _ | with_reducible assumption | refine bl_alloc ?_ _ | refine bl_set ?_ (by simp <;> omega) _ | refine bl_drew ?_ | refine bl_drewN ?_ _ | refine bl_step ?_ (by assumption)))
set_option maxHeartbeats 1600000 in
theorem simp_bad (a b c d : Int) (w : World) (HB : (Hid (∀ w, Calls Tryd.prog 49 #[.agg #[.int .i64 a, .int .i64 b], .agg #[.int .i64 c, .int .i64 d]] w fun e w' => e = .returned (.bool false) ∧ Below w.heap.size w w'))) :
    Calls Tryd.prog 35 #[.agg #[.int .i64 a, .int .i64 b], .agg #[.int .i64 c, .int .i64 d]] w fun e w' => e = .returned (.tuple #[.agg #[.int .i64 0, .int .i64 0], .bool false]) ∧ Below w.heap.size w w' := by
  go_enter Tryd.func35, Tryd.ntmps35
  go_wp2_with fail
  refine (HB.out _).mono ?_; rintro e v1 ⟨rfl, hb1⟩
  have st1 := bl_step (bl_alloc (bl_alloc (bl_alloc (Below.refl _ _) _) _) _) hb1
  have bl1 := st1
  have Ba_1 : Blk v1 (w.heap.size) 23 #[.int .i64 a, .int .i64 b] := (((Blk.new _ _ _).alloc _).alloc _).below hb1
  have Bc_1 : Blk v1 (w.heap.size + 1) 23 #[.int .i64 c, .int .i64 d] := ((Blk.new' (by simp) _ _).alloc _).below hb1
  have Br_1 : Blk v1 (w.heap.size + 1 + 1) 23 #[.int .i64 0, .int .i64 0] := (Blk.new' (by simp) _ _).below hb1
  have a_1_z : w.heap.size < v1.heap.size := Ba_1.lt
  have a_1_c0 : v1.cell? ⟨w.heap.size, 0, none⟩ = some (.int .i64 a) := (Ba_1.cell 0).trans rfl
  have a_1_f0 := Ba_1.frozen 0
  have a_1_c1 : v1.cell? ⟨w.heap.size, 1, none⟩ = some (.int .i64 b) := (Ba_1.cell 1).trans rfl
  have a_1_f1 := Ba_1.frozen 1
  have c_1_z : w.heap.size + 1 < v1.heap.size := Bc_1.lt
  have c_1_c0 : v1.cell? ⟨w.heap.size + 1, 0, none⟩ = some (.int .i64 c) := (Bc_1.cell 0).trans rfl
  have c_1_f0 := Bc_1.frozen 0
  have c_1_c1 : v1.cell? ⟨w.heap.size + 1, 1, none⟩ = some (.int .i64 d) := (Bc_1.cell 1).trans rfl
  have c_1_f1 := Bc_1.frozen 1
  have r_1_z : w.heap.size + 1 + 1 < v1.heap.size := Br_1.lt
  have r_1_c0 : v1.cell? ⟨w.heap.size + 1 + 1, 0, none⟩ = some (.int .i64 0) := (Br_1.cell 0).trans rfl
  have r_1_f0 := Br_1.frozen 0
  have r_1_c1 : v1.cell? ⟨w.heap.size + 1 + 1, 1, none⟩ = some (.int .i64 0) := (Br_1.cell 1).trans rfl
  have r_1_f1 := Br_1.frozen 1
  go_wp2
  refine bodyPost_ret (v := .tuple #[.agg #[.int .i64 0, .int .i64 0], .bool false]) (by simp [results, Tryd.results35, go_sem, r_1_c0, r_1_f0, r_1_c1, r_1_f1, r_1_z]) rfl ⟨rfl, ?_⟩
  (repeat (first | exact Below.refl _ _ | with_reducible assumption | refine bl_alloc ?_ _ | refine bl_set ?_ (by simp <;> omega) _ | refine bl_drew ?_ | refine bl_drewN ?_ _ | refine bl_step ?_ (by assumption)))
set_option maxHeartbeats 1600000 in
theorem simp_gt (a b c d : Int) (w : World) (x : Int) (hx : 0 < x) (HB : (Hid (∀ w, Calls Tryd.prog 49 #[.agg #[.int .i64 a, .int .i64 b], .agg #[.int .i64 c, .int .i64 d]] w fun e w' => e = .returned (.bool true) ∧ Below w.heap.size w w'))) (HC : (Hid (∀ w, Calls Tryd.prog 22 #[.agg #[.int .i64 a, .int .i64 b], .agg #[.int .i64 c, .int .i64 d]] w fun e w' => e = .returned (.int .i64 x) ∧ Below w.heap.size w w'))) :
    Calls Tryd.prog 35 #[.agg #[.int .i64 a, .int .i64 b], .agg #[.int .i64 c, .int .i64 d]] w fun e w' => e = .returned (.tuple #[.agg #[.int .i64 0, .int .i64 0], .bool false]) ∧ Below w.heap.size w w' := by
  go_enter Tryd.func35, Tryd.ntmps35
  go_wp2_with fail
  refine (HB.out _).mono ?_; rintro e v1 ⟨rfl, hb1⟩
  have st1 := bl_step (bl_alloc (bl_alloc (bl_alloc (Below.refl _ _) _) _) _) hb1
  have bl1 := st1
  have Ba_1 : Blk v1 (w.heap.size) 23 #[.int .i64 a, .int .i64 b] := (((Blk.new _ _ _).alloc _).alloc _).below hb1
  have Bc_1 : Blk v1 (w.heap.size + 1) 23 #[.int .i64 c, .int .i64 d] := ((Blk.new' (by simp) _ _).alloc _).below hb1
  have Br_1 : Blk v1 (w.heap.size + 1 + 1) 23 #[.int .i64 0, .int .i64 0] := (Blk.new' (by simp) _ _).below hb1
  have a_1_z : w.heap.size < v1.heap.size := Ba_1.lt
  have a_1_c0 : v1.cell? ⟨w.heap.size, 0, none⟩ = some (.int .i64 a) := (Ba_1.cell 0).trans rfl
  have a_1_f0 := Ba_1.frozen 0
  have a_1_c1 : v1.cell? ⟨w.heap.size, 1, none⟩ = some (.int .i64 b) := (Ba_1.cell 1).trans rfl
  have a_1_f1 := Ba_1.frozen 1
  have c_1_z : w.heap.size + 1 < v1.heap.size := Bc_1.lt
  have c_1_c0 : v1.cell? ⟨w.heap.size + 1, 0, none⟩ = some (.int .i64 c) := (Bc_1.cell 0).trans rfl
  have c_1_f0 := Bc_1.frozen 0
  have c_1_c1 : v1.cell? ⟨w.heap.size + 1, 1, none⟩ = some (.int .i64 d) := (Bc_1.cell 1).trans rfl
  have c_1_f1 := Bc_1.frozen 1
  have r_1_z : w.heap.size + 1 + 1 < v1.heap.size := Br_1.lt
  have r_1_c0 : v1.cell? ⟨w.heap.size + 1 + 1, 0, none⟩ = some (.int .i64 0) := (Br_1.cell 0).trans rfl
  have r_1_f0 := Br_1.frozen 0
  have r_1_c1 : v1.cell? ⟨w.heap.size + 1 + 1, 1, none⟩ = some (.int .i64 0) := (Br_1.cell 1).trans rfl
  have r_1_f1 := Br_1.frozen 1
  go_wp2_with fail
  refine (HC.out _).mono ?_; rintro e v2 ⟨rfl, hb2⟩
  have st2 := bl_step (Below.refl _ _) hb2
  have bl2 := bl_step bl1 st2
  clear a_1_z a_1_c0 a_1_f0 a_1_c1 a_1_f1
  have Ba_2 := Ba_1.below st2
  clear c_1_z c_1_c0 c_1_f0 c_1_c1 c_1_f1
  have Bc_2 := Bc_1.below st2
  clear r_1_z r_1_c0 r_1_f0 r_1_c1 r_1_f1
  have Br_2 := Br_1.below st2
  have a_2_z : w.heap.size < v2.heap.size := Ba_2.lt
  have a_2_c0 : v2.cell? ⟨w.heap.size, 0, none⟩ = some (.int .i64 a) := (Ba_2.cell 0).trans rfl
  have a_2_f0 := Ba_2.frozen 0
  have a_2_c1 : v2.cell? ⟨w.heap.size, 1, none⟩ = some (.int .i64 b) := (Ba_2.cell 1).trans rfl
  have a_2_f1 := Ba_2.frozen 1
  have c_2_z : w.heap.size + 1 < v2.heap.size := Bc_2.lt
  have c_2_c0 : v2.cell? ⟨w.heap.size + 1, 0, none⟩ = some (.int .i64 c) := (Bc_2.cell 0).trans rfl
  have c_2_f0 := Bc_2.frozen 0
  have c_2_c1 : v2.cell? ⟨w.heap.size + 1, 1, none⟩ = some (.int .i64 d) := (Bc_2.cell 1).trans rfl
  have c_2_f1 := Bc_2.frozen 1
  have r_2_z : w.heap.size + 1 + 1 < v2.heap.size := Br_2.lt
  have r_2_c0 : v2.cell? ⟨w.heap.size + 1 + 1, 0, none⟩ = some (.int .i64 0) := (Br_2.cell 0).trans rfl
  have r_2_f0 := Br_2.frozen 0
  have r_2_c1 : v2.cell? ⟨w.heap.size + 1 + 1, 1, none⟩ = some (.int .i64 0) := (Br_2.cell 1).trans rfl
  have r_2_f1 := Br_2.frozen 1
  go_wp2
  refine bodyPost_ret (v := .tuple #[.agg #[.int .i64 0, .int .i64 0], .bool false]) (by simp [results, Tryd.results35, go_sem, r_2_c0, r_2_f0, r_2_c1, r_2_f1, r_2_z]) rfl ⟨rfl, ?_⟩
  (repeat (first | exact Below.refl _ _ | with_reducible assumption | refine bl_alloc ?_ _ | refine bl_set ?_ (by simp <;> omega) _ | refine bl_drew ?_ | refine bl_drewN ?_ _ | refine bl_step ?_ (by assumption)))
set_option maxHeartbeats 1600000 in
theorem simp_mid (a b c d : Int) (w : World) (x : Int) (hx : x ≤ 0) (ha : a ≤ 0) (hc : 0 ≤ c) (HB : (Hid (∀ w, Calls Tryd.prog 49 #[.agg #[.int .i64 a, .int .i64 b], .agg #[.int .i64 c, .int .i64 d]] w fun e w' => e = .returned (.bool true) ∧ Below w.heap.size w w'))) (HC : (Hid (∀ w, Calls Tryd.prog 22 #[.agg #[.int .i64 a, .int .i64 b], .agg #[.int .i64 c, .int .i64 d]] w fun e w' => e = .returned (.int .i64 x) ∧ Below w.heap.size w w'))) (HO : (Hid (∀ w, Calls Tryd.prog 16 #[.int .i64 0] w fun e w' => e = .returned (.agg #[.int .i64 0, .int .i64 1]) ∧ Below w.heap.size w w'))) :
    Calls Tryd.prog 35 #[.agg #[.int .i64 a, .int .i64 b], .agg #[.int .i64 c, .int .i64 d]] w fun e w' => e = .returned (.tuple #[.agg #[.int .i64 0, .int .i64 1], .bool true]) ∧ Below w.heap.size w w' := by
  go_enter Tryd.func35, Tryd.ntmps35
  go_wp2_with fail
  refine (HB.out _).mono ?_; rintro e v1 ⟨rfl, hb1⟩
  have st1 := bl_step (bl_alloc (bl_alloc (bl_alloc (Below.refl _ _) _) _) _) hb1
  have bl1 := st1
  have Ba_1 : Blk v1 (w.heap.size) 23 #[.int .i64 a, .int .i64 b] := (((Blk.new _ _ _).alloc _).alloc _).below hb1
  have Bc_1 : Blk v1 (w.heap.size + 1) 23 #[.int .i64 c, .int .i64 d] := ((Blk.new' (by simp) _ _).alloc _).below hb1
  have Br_1 : Blk v1 (w.heap.size + 1 + 1) 23 #[.int .i64 0, .int .i64 0] := (Blk.new' (by simp) _ _).below hb1
  have a_1_z : w.heap.size < v1.heap.size := Ba_1.lt
  have a_1_c0 : v1.cell? ⟨w.heap.size, 0, none⟩ = some (.int .i64 a) := (Ba_1.cell 0).trans rfl
  have a_1_f0 := Ba_1.frozen 0
  have a_1_c1 : v1.cell? ⟨w.heap.size, 1, none⟩ = some (.int .i64 b) := (Ba_1.cell 1).trans rfl
  have a_1_f1 := Ba_1.frozen 1
  have c_1_z : w.heap.size + 1 < v1.heap.size := Bc_1.lt
  have c_1_c0 : v1.cell? ⟨w.heap.size + 1, 0, none⟩ = some (.int .i64 c) := (Bc_1.cell 0).trans rfl
  have c_1_f0 := Bc_1.frozen 0
  have c_1_c1 : v1.cell? ⟨w.heap.size + 1, 1, none⟩ = some (.int .i64 d) := (Bc_1.cell 1).trans rfl
  have c_1_f1 := Bc_1.frozen 1
  have r_1_z : w.heap.size + 1 + 1 < v1.heap.size := Br_1.lt
  have r_1_c0 : v1.cell? ⟨w.heap.size + 1 + 1, 0, none⟩ = some (.int .i64 0) := (Br_1.cell 0).trans rfl
  have r_1_f0 := Br_1.frozen 0
  have r_1_c1 : v1.cell? ⟨w.heap.size + 1 + 1, 1, none⟩ = some (.int .i64 0) := (Br_1.cell 1).trans rfl
  have r_1_f1 := Br_1.frozen 1
  go_wp2_with fail
  refine (HC.out _).mono ?_; rintro e v2 ⟨rfl, hb2⟩
  have st2 := bl_step (Below.refl _ _) hb2
  have bl2 := bl_step bl1 st2
  clear a_1_z a_1_c0 a_1_f0 a_1_c1 a_1_f1
  have Ba_2 := Ba_1.below st2
  clear c_1_z c_1_c0 c_1_f0 c_1_c1 c_1_f1
  have Bc_2 := Bc_1.below st2
  clear r_1_z r_1_c0 r_1_f0 r_1_c1 r_1_f1
  have Br_2 := Br_1.below st2
  have a_2_z : w.heap.size < v2.heap.size := Ba_2.lt
  have a_2_c0 : v2.cell? ⟨w.heap.size, 0, none⟩ = some (.int .i64 a) := (Ba_2.cell 0).trans rfl
  have a_2_f0 := Ba_2.frozen 0
  have a_2_c1 : v2.cell? ⟨w.heap.size, 1, none⟩ = some (.int .i64 b) := (Ba_2.cell 1).trans rfl
  have a_2_f1 := Ba_2.frozen 1
  have c_2_z : w.heap.size + 1 < v2.heap.size := Bc_2.lt
  have c_2_c0 : v2.cell? ⟨w.heap.size + 1, 0, none⟩ = some (.int .i64 c) := (Bc_2.cell 0).trans rfl
  have c_2_f0 := Bc_2.frozen 0
  have c_2_c1 : v2.cell? ⟨w.heap.size + 1, 1, none⟩ = some (.int .i64 d) := (Bc_2.cell 1).trans rfl
  have c_2_f1 := Bc_2.frozen 1
  have r_2_z : w.heap.size + 1 + 1 < v2.heap.size := Br_2.lt
  have r_2_c0 : v2.cell? ⟨w.heap.size + 1 + 1, 0, none⟩ = some (.int .i64 0) := (Br_2.cell 0).trans rfl
  have r_2_f0 := Br_2.frozen 0
  have r_2_c1 : v2.cell? ⟨w.heap.size + 1 + 1, 1, none⟩ = some (.int .i64 0) := (Br_2.cell 1).trans rfl
  have r_2_f1 := Br_2.frozen 1
  go_wp2_with fail
  refine (HO.out _).mono ?_; rintro e v3 ⟨rfl, hb3⟩
  have st3 := bl_step (Below.refl _ _) hb3
  have bl3 := bl_step bl2 st3
  clear a_2_z a_2_c0 a_2_f0 a_2_c1 a_2_f1
  have Ba_3 := Ba_2.below st3
  clear c_2_z c_2_c0 c_2_f0 c_2_c1 c_2_f1
  have Bc_3 := Bc_2.below st3
  clear r_2_z r_2_c0 r_2_f0 r_2_c1 r_2_f1
  have Br_3 := Br_2.below st3
  have a_3_z : w.heap.size < v3.heap.size := Ba_3.lt
  have a_3_c0 : v3.cell? ⟨w.heap.size, 0, none⟩ = some (.int .i64 a) := (Ba_3.cell 0).trans rfl
  have a_3_f0 := Ba_3.frozen 0
  have a_3_c1 : v3.cell? ⟨w.heap.size, 1, none⟩ = some (.int .i64 b) := (Ba_3.cell 1).trans rfl
  have a_3_f1 := Ba_3.frozen 1
  have c_3_z : w.heap.size + 1 < v3.heap.size := Bc_3.lt
  have c_3_c0 : v3.cell? ⟨w.heap.size + 1, 0, none⟩ = some (.int .i64 c) := (Bc_3.cell 0).trans rfl
  have c_3_f0 := Bc_3.frozen 0
  have c_3_c1 : v3.cell? ⟨w.heap.size + 1, 1, none⟩ = some (.int .i64 d) := (Bc_3.cell 1).trans rfl
  have c_3_f1 := Bc_3.frozen 1
  have r_3_z : w.heap.size + 1 + 1 < v3.heap.size := Br_3.lt
  have r_3_c0 : v3.cell? ⟨w.heap.size + 1 + 1, 0, none⟩ = some (.int .i64 0) := (Br_3.cell 0).trans rfl
  have r_3_f0 := Br_3.frozen 0
  have r_3_c1 : v3.cell? ⟨w.heap.size + 1 + 1, 1, none⟩ = some (.int .i64 0) := (Br_3.cell 1).trans rfl
  have r_3_f1 := Br_3.frozen 1
  go_wp2
  refine bodyPost_ret (v := .tuple #[.agg #[.int .i64 0, .int .i64 1], .bool true]) (by simp [results, Tryd.results35, go_sem, r_3_c0, r_3_f0, r_3_c1, r_3_f1, r_3_z]) rfl ⟨rfl, ?_⟩
  (repeat (first | exact Below.refl _ _ | with_reducible assumption | refine bl_alloc ?_ _ | refine bl_set ?_ (by simp <;> omega) _ | refine bl_drew ?_ | refine bl_drewN ?_ _ | refine bl_step ?_ (by assumption)))
set_option maxHeartbeats 1600000 in
theorem simp_pos (a b c d : Int) (w : World) (x N D : Int) (hx : x ≤ 0) (ha : 0 < a) (HB : (Hid (∀ w, Calls Tryd.prog 49 #[.agg #[.int .i64 a, .int .i64 b], .agg #[.int .i64 c, .int .i64 d]] w fun e w' => e = .returned (.bool true) ∧ Below w.heap.size w w'))) (HC : (Hid (∀ w, Calls Tryd.prog 22 #[.agg #[.int .i64 a, .int .i64 b], .agg #[.int .i64 c, .int .i64 d]] w fun e w' => e = .returned (.int .i64 x) ∧ Below w.heap.size w w'))) (HT : (Hid (∀ w, Calls Tryd.prog 62 #[.agg #[.int .i64 a, .int .i64 b], .agg #[.int .i64 c, .int .i64 d]] w fun e w' => e = .returned (.agg #[.int .i64 N, .int .i64 D]) ∧ Below w.heap.size w w'))) :
    Calls Tryd.prog 35 #[.agg #[.int .i64 a, .int .i64 b], .agg #[.int .i64 c, .int .i64 d]] w fun e w' => e = .returned (.tuple #[.agg #[.int .i64 N, .int .i64 D], .bool true]) ∧ Below w.heap.size w w' := by
  go_enter Tryd.func35, Tryd.ntmps35
  go_wp2_with fail
  refine (HB.out _).mono ?_; rintro e v1 ⟨rfl, hb1⟩
  have st1 := bl_step (bl_alloc (bl_alloc (bl_alloc (Below.refl _ _) _) _) _) hb1
  have bl1 := st1
  have Ba_1 : Blk v1 (w.heap.size) 23 #[.int .i64 a, .int .i64 b] := (((Blk.new _ _ _).alloc _).alloc _).below hb1
  have Bc_1 : Blk v1 (w.heap.size + 1) 23 #[.int .i64 c, .int .i64 d] := ((Blk.new' (by simp) _ _).alloc _).below hb1
  have Br_1 : Blk v1 (w.heap.size + 1 + 1) 23 #[.int .i64 0, .int .i64 0] := (Blk.new' (by simp) _ _).below hb1
  have a_1_z : w.heap.size < v1.heap.size := Ba_1.lt
  have a_1_c0 : v1.cell? ⟨w.heap.size, 0, none⟩ = some (.int .i64 a) := (Ba_1.cell 0).trans rfl
  have a_1_f0 := Ba_1.frozen 0
  have a_1_c1 : v1.cell? ⟨w.heap.size, 1, none⟩ = some (.int .i64 b) := (Ba_1.cell 1).trans rfl
  have a_1_f1 := Ba_1.frozen 1
  have c_1_z : w.heap.size + 1 < v1.heap.size := Bc_1.lt
  have c_1_c0 : v1.cell? ⟨w.heap.size + 1, 0, none⟩ = some (.int .i64 c) := (Bc_1.cell 0).trans rfl
  have c_1_f0 := Bc_1.frozen 0
  have c_1_c1 : v1.cell? ⟨w.heap.size + 1, 1, none⟩ = some (.int .i64 d) := (Bc_1.cell 1).trans rfl
  have c_1_f1 := Bc_1.frozen 1
  have r_1_z : w.heap.size + 1 + 1 < v1.heap.size := Br_1.lt
  have r_1_c0 : v1.cell? ⟨w.heap.size + 1 + 1, 0, none⟩ = some (.int .i64 0) := (Br_1.cell 0).trans rfl
  have r_1_f0 := Br_1.frozen 0
  have r_1_c1 : v1.cell? ⟨w.heap.size + 1 + 1, 1, none⟩ = some (.int .i64 0) := (Br_1.cell 1).trans rfl
  have r_1_f1 := Br_1.frozen 1
  go_wp2_with fail
  refine (HC.out _).mono ?_; rintro e v2 ⟨rfl, hb2⟩
  have st2 := bl_step (Below.refl _ _) hb2
  have bl2 := bl_step bl1 st2
  clear a_1_z a_1_c0 a_1_f0 a_1_c1 a_1_f1
  have Ba_2 := Ba_1.below st2
  clear c_1_z c_1_c0 c_1_f0 c_1_c1 c_1_f1
  have Bc_2 := Bc_1.below st2
  clear r_1_z r_1_c0 r_1_f0 r_1_c1 r_1_f1
  have Br_2 := Br_1.below st2
  have a_2_z : w.heap.size < v2.heap.size := Ba_2.lt
  have a_2_c0 : v2.cell? ⟨w.heap.size, 0, none⟩ = some (.int .i64 a) := (Ba_2.cell 0).trans rfl
  have a_2_f0 := Ba_2.frozen 0
  have a_2_c1 : v2.cell? ⟨w.heap.size, 1, none⟩ = some (.int .i64 b) := (Ba_2.cell 1).trans rfl
  have a_2_f1 := Ba_2.frozen 1
  have c_2_z : w.heap.size + 1 < v2.heap.size := Bc_2.lt
  have c_2_c0 : v2.cell? ⟨w.heap.size + 1, 0, none⟩ = some (.int .i64 c) := (Bc_2.cell 0).trans rfl
  have c_2_f0 := Bc_2.frozen 0
  have c_2_c1 : v2.cell? ⟨w.heap.size + 1, 1, none⟩ = some (.int .i64 d) := (Bc_2.cell 1).trans rfl
  have c_2_f1 := Bc_2.frozen 1
  have r_2_z : w.heap.size + 1 + 1 < v2.heap.size := Br_2.lt
  have r_2_c0 : v2.cell? ⟨w.heap.size + 1 + 1, 0, none⟩ = some (.int .i64 0) := (Br_2.cell 0).trans rfl
  have r_2_f0 := Br_2.frozen 0
  have r_2_c1 : v2.cell? ⟨w.heap.size + 1 + 1, 1, none⟩ = some (.int .i64 0) := (Br_2.cell 1).trans rfl
  have r_2_f1 := Br_2.frozen 1
  go_wp2_with fail
  refine (HT.out _).mono ?_; rintro e v3 ⟨rfl, hb3⟩
  have st3 := bl_step (Below.refl _ _) hb3
  have bl3 := bl_step bl2 st3
  clear a_2_z a_2_c0 a_2_f0 a_2_c1 a_2_f1
  have Ba_3 := Ba_2.below st3
  clear c_2_z c_2_c0 c_2_f0 c_2_c1 c_2_f1
  have Bc_3 := Bc_2.below st3
  clear r_2_z r_2_c0 r_2_f0 r_2_c1 r_2_f1
  have Br_3 := Br_2.below st3
  have a_3_z : w.heap.size < v3.heap.size := Ba_3.lt
  have a_3_c0 : v3.cell? ⟨w.heap.size, 0, none⟩ = some (.int .i64 a) := (Ba_3.cell 0).trans rfl
  have a_3_f0 := Ba_3.frozen 0
  have a_3_c1 : v3.cell? ⟨w.heap.size, 1, none⟩ = some (.int .i64 b) := (Ba_3.cell 1).trans rfl
  have a_3_f1 := Ba_3.frozen 1
  have c_3_z : w.heap.size + 1 < v3.heap.size := Bc_3.lt
  have c_3_c0 : v3.cell? ⟨w.heap.size + 1, 0, none⟩ = some (.int .i64 c) := (Bc_3.cell 0).trans rfl
  have c_3_f0 := Bc_3.frozen 0
  have c_3_c1 : v3.cell? ⟨w.heap.size + 1, 1, none⟩ = some (.int .i64 d) := (Bc_3.cell 1).trans rfl
  have c_3_f1 := Bc_3.frozen 1
  have r_3_z : w.heap.size + 1 + 1 < v3.heap.size := Br_3.lt
  have r_3_c0 : v3.cell? ⟨w.heap.size + 1 + 1, 0, none⟩ = some (.int .i64 0) := (Br_3.cell 0).trans rfl
  have r_3_f0 := Br_3.frozen 0
  have r_3_c1 : v3.cell? ⟨w.heap.size + 1 + 1, 1, none⟩ = some (.int .i64 0) := (Br_3.cell 1).trans rfl
  have r_3_f1 := Br_3.frozen 1
  go_wp2
  refine bodyPost_ret (v := .tuple #[.agg #[.int .i64 N, .int .i64 D], .bool true]) (by simp [results, Tryd.results35, go_sem, r_3_c0, r_3_f0, r_3_c1, r_3_f1, r_3_z]) rfl ⟨rfl, ?_⟩
  (repeat (first | exact Below.refl _ _ | with_reducible assumption | refine bl_alloc ?_ _ | refine bl_set ?_ (by simp <;> omega) _ | refine bl_drew ?_ | refine bl_drewN ?_ _ | refine bl_step ?_ (by assumption)))
set_option maxHeartbeats 1600000 in
theorem simp_wide (a b c d : Int) (w : World) (x p q : Int) (u v : Bool) (huv : (u && v) = false) (hx : x ≤ 0) (ha : a < 0) (hc : c < 0) (HB : (Hid (∀ w, Calls Tryd.prog 49 #[.agg #[.int .i64 a, .int .i64 b], .agg #[.int .i64 c, .int .i64 d]] w fun e w' => e = .returned (.bool true) ∧ Below w.heap.size w w'))) (HC : (Hid (∀ w, Calls Tryd.prog 22 #[.agg #[.int .i64 a, .int .i64 b], .agg #[.int .i64 c, .int .i64 d]] w fun e w' => e = .returned (.int .i64 x) ∧ Below w.heap.size w w'))) (H1 : (Hid (∀ w, Calls Tryd.prog 61 #[.int .i64 a] w fun e w' => e = .returned (.tuple #[.int .i64 p, .bool u]) ∧ Below w.heap.size w w'))) (H2 : (Hid (∀ w, Calls Tryd.prog 61 #[.int .i64 c] w fun e w' => e = .returned (.tuple #[.int .i64 q, .bool v]) ∧ Below w.heap.size w w'))) :
    Calls Tryd.prog 35 #[.agg #[.int .i64 a, .int .i64 b], .agg #[.int .i64 c, .int .i64 d]] w fun e w' => e = .returned (.tuple #[.agg #[.int .i64 0, .int .i64 0], .bool false]) ∧ Below w.heap.size w w' := by
  cases u <;> cases v
  all_goals try cases huv
  all_goals
    go_enter Tryd.func35, Tryd.ntmps35
    go_wp2_with fail
    refine (HB.out _).mono ?_; rintro e v1 ⟨rfl, hb1⟩
    have st1 := bl_step (bl_alloc (bl_alloc (bl_alloc (Below.refl _ _) _) _) _) hb1
    have bl1 := st1
    have Ba_1 : Blk v1 (w.heap.size) 23 #[.int .i64 a, .int .i64 b] := (((Blk.new _ _ _).alloc _).alloc _).below hb1
    have Bc_1 : Blk v1 (w.heap.size + 1) 23 #[.int .i64 c, .int .i64 d] := ((Blk.new' (by simp) _ _).alloc _).below hb1
    have Br_1 : Blk v1 (w.heap.size + 1 + 1) 23 #[.int .i64 0, .int .i64 0] := (Blk.new' (by simp) _ _).below hb1
    have a_1_z : w.heap.size < v1.heap.size := Ba_1.lt
    have a_1_c0 : v1.cell? ⟨w.heap.size, 0, none⟩ = some (.int .i64 a) := (Ba_1.cell 0).trans rfl
    have a_1_f0 := Ba_1.frozen 0
    have a_1_c1 : v1.cell? ⟨w.heap.size, 1, none⟩ = some (.int .i64 b) := (Ba_1.cell 1).trans rfl
    have a_1_f1 := Ba_1.frozen 1
    have c_1_z : w.heap.size + 1 < v1.heap.size := Bc_1.lt
    have c_1_c0 : v1.cell? ⟨w.heap.size + 1, 0, none⟩ = some (.int .i64 c) := (Bc_1.cell 0).trans rfl
    have c_1_f0 := Bc_1.frozen 0
    have c_1_c1 : v1.cell? ⟨w.heap.size + 1, 1, none⟩ = some (.int .i64 d) := (Bc_1.cell 1).trans rfl
    have c_1_f1 := Bc_1.frozen 1
    have r_1_z : w.heap.size + 1 + 1 < v1.heap.size := Br_1.lt
    have r_1_c0 : v1.cell? ⟨w.heap.size + 1 + 1, 0, none⟩ = some (.int .i64 0) := (Br_1.cell 0).trans rfl
    have r_1_f0 := Br_1.frozen 0
    have r_1_c1 : v1.cell? ⟨w.heap.size + 1 + 1, 1, none⟩ = some (.int .i64 0) := (Br_1.cell 1).trans rfl
    have r_1_f1 := Br_1.frozen 1
    go_wp2_with fail
    refine (HC.out _).mono ?_; rintro e v2 ⟨rfl, hb2⟩
    have st2 := bl_step (Below.refl _ _) hb2
    have bl2 := bl_step bl1 st2
    clear a_1_z a_1_c0 a_1_f0 a_1_c1 a_1_f1
    have Ba_2 := Ba_1.below st2
    clear c_1_z c_1_c0 c_1_f0 c_1_c1 c_1_f1
    have Bc_2 := Bc_1.below st2
    clear r_1_z r_1_c0 r_1_f0 r_1_c1 r_1_f1
    have Br_2 := Br_1.below st2
    have a_2_z : w.heap.size < v2.heap.size := Ba_2.lt
    have a_2_c0 : v2.cell? ⟨w.heap.size, 0, none⟩ = some (.int .i64 a) := (Ba_2.cell 0).trans rfl
    have a_2_f0 := Ba_2.frozen 0
    have a_2_c1 : v2.cell? ⟨w.heap.size, 1, none⟩ = some (.int .i64 b) := (Ba_2.cell 1).trans rfl
    have a_2_f1 := Ba_2.frozen 1
    have c_2_z : w.heap.size + 1 < v2.heap.size := Bc_2.lt
    have c_2_c0 : v2.cell? ⟨w.heap.size + 1, 0, none⟩ = some (.int .i64 c) := (Bc_2.cell 0).trans rfl
    have c_2_f0 := Bc_2.frozen 0
    have c_2_c1 : v2.cell? ⟨w.heap.size + 1, 1, none⟩ = some (.int .i64 d) := (Bc_2.cell 1).trans rfl
    have c_2_f1 := Bc_2.frozen 1
    have r_2_z : w.heap.size + 1 + 1 < v2.heap.size := Br_2.lt
    have r_2_c0 : v2.cell? ⟨w.heap.size + 1 + 1, 0, none⟩ = some (.int .i64 0) := (Br_2.cell 0).trans rfl
    have r_2_f0 := Br_2.frozen 0
    have r_2_c1 : v2.cell? ⟨w.heap.size + 1 + 1, 1, none⟩ = some (.int .i64 0) := (Br_2.cell 1).trans rfl
    have r_2_f1 := Br_2.frozen 1
    go_wp2_with fail
    refine (H1.out _).mono ?_; rintro e v3 ⟨rfl, hb3⟩
    have st3 := bl_step (Below.refl _ _) hb3
    have bl3 := bl_step bl2 st3
    clear a_2_z a_2_c0 a_2_f0 a_2_c1 a_2_f1
    have Ba_3 := Ba_2.below st3
    clear c_2_z c_2_c0 c_2_f0 c_2_c1 c_2_f1
    have Bc_3 := Bc_2.below st3
    clear r_2_z r_2_c0 r_2_f0 r_2_c1 r_2_f1
    have Br_3 := Br_2.below st3
    have a_3_z : w.heap.size < v3.heap.size := Ba_3.lt
    have a_3_c0 : v3.cell? ⟨w.heap.size, 0, none⟩ = some (.int .i64 a) := (Ba_3.cell 0).trans rfl
    have a_3_f0 := Ba_3.frozen 0
    have a_3_c1 : v3.cell? ⟨w.heap.size, 1, none⟩ = some (.int .i64 b) := (Ba_3.cell 1).trans rfl
    have a_3_f1 := Ba_3.frozen 1
    have c_3_z : w.heap.size + 1 < v3.heap.size := Bc_3.lt
    have c_3_c0 : v3.cell? ⟨w.heap.size + 1, 0, none⟩ = some (.int .i64 c) := (Bc_3.cell 0).trans rfl
    have c_3_f0 := Bc_3.frozen 0
    have c_3_c1 : v3.cell? ⟨w.heap.size + 1, 1, none⟩ = some (.int .i64 d) := (Bc_3.cell 1).trans rfl
    have c_3_f1 := Bc_3.frozen 1
    have r_3_z : w.heap.size + 1 + 1 < v3.heap.size := Br_3.lt
    have r_3_c0 : v3.cell? ⟨w.heap.size + 1 + 1, 0, none⟩ = some (.int .i64 0) := (Br_3.cell 0).trans rfl
    have r_3_f0 := Br_3.frozen 0
    have r_3_c1 : v3.cell? ⟨w.heap.size + 1 + 1, 1, none⟩ = some (.int .i64 0) := (Br_3.cell 1).trans rfl
    have r_3_f1 := Br_3.frozen 1
    go_wp2_with fail
    refine (H2.out _).mono ?_; rintro e v4 ⟨rfl, hb4⟩
    have st4 := bl_step (Below.refl _ _) hb4
    have bl4 := bl_step bl3 st4
    clear a_3_z a_3_c0 a_3_f0 a_3_c1 a_3_f1
    have Ba_4 := Ba_3.below st4
    clear c_3_z c_3_c0 c_3_f0 c_3_c1 c_3_f1
    have Bc_4 := Bc_3.below st4
    clear r_3_z r_3_c0 r_3_f0 r_3_c1 r_3_f1
    have Br_4 := Br_3.below st4
    have a_4_z : w.heap.size < v4.heap.size := Ba_4.lt
    have a_4_c0 : v4.cell? ⟨w.heap.size, 0, none⟩ = some (.int .i64 a) := (Ba_4.cell 0).trans rfl
    have a_4_f0 := Ba_4.frozen 0
    have a_4_c1 : v4.cell? ⟨w.heap.size, 1, none⟩ = some (.int .i64 b) := (Ba_4.cell 1).trans rfl
    have a_4_f1 := Ba_4.frozen 1
    have c_4_z : w.heap.size + 1 < v4.heap.size := Bc_4.lt
    have c_4_c0 : v4.cell? ⟨w.heap.size + 1, 0, none⟩ = some (.int .i64 c) := (Bc_4.cell 0).trans rfl
    have c_4_f0 := Bc_4.frozen 0
    have c_4_c1 : v4.cell? ⟨w.heap.size + 1, 1, none⟩ = some (.int .i64 d) := (Bc_4.cell 1).trans rfl
    have c_4_f1 := Bc_4.frozen 1
    have r_4_z : w.heap.size + 1 + 1 < v4.heap.size := Br_4.lt
    have r_4_c0 : v4.cell? ⟨w.heap.size + 1 + 1, 0, none⟩ = some (.int .i64 0) := (Br_4.cell 0).trans rfl
    have r_4_f0 := Br_4.frozen 0
    have r_4_c1 : v4.cell? ⟨w.heap.size + 1 + 1, 1, none⟩ = some (.int .i64 0) := (Br_4.cell 1).trans rfl
    have r_4_f1 := Br_4.frozen 1
    go_wp2
    refine bodyPost_ret (v := .tuple #[.agg #[.int .i64 0, .int .i64 0], .bool false]) (by simp [results, Tryd.results35, go_sem, r_4_c0, r_4_f0, r_4_c1, r_4_f1, r_4_z]) rfl ⟨rfl, ?_⟩
    (repeat (first | exact Below.refl _ _ | with_reducible assumption | refine bl_alloc ?_ _ | refine bl_set ?_ (by simp <;> omega) _ | refine bl_drew ?_ | refine bl_drewN ?_ _ | refine bl_step ?_ (by assumption)))
set_option maxHeartbeats 1600000 in
theorem simp_neg (a b c d : Int) (w : World) (x p q N D : Int) (hx : x ≤ 0) (ha : a < 0) (hc : c < 0) (HB : (Hid (∀ w, Calls Tryd.prog 49 #[.agg #[.int .i64 a, .int .i64 b], .agg #[.int .i64 c, .int .i64 d]] w fun e w' => e = .returned (.bool true) ∧ Below w.heap.size w w'))) (HC : (Hid (∀ w, Calls Tryd.prog 22 #[.agg #[.int .i64 a, .int .i64 b], .agg #[.int .i64 c, .int .i64 d]] w fun e w' => e = .returned (.int .i64 x) ∧ Below w.heap.size w w'))) (H1 : (Hid (∀ w, Calls Tryd.prog 61 #[.int .i64 a] w fun e w' => e = .returned (.tuple #[.int .i64 p, .bool true]) ∧ Below w.heap.size w w'))) (H2 : (Hid (∀ w, Calls Tryd.prog 61 #[.int .i64 c] w fun e w' => e = .returned (.tuple #[.int .i64 q, .bool true]) ∧ Below w.heap.size w w'))) (HT : (Hid (∀ w, Calls Tryd.prog 62 #[.agg #[.int .i64 q, .int .i64 d], .agg #[.int .i64 p, .int .i64 b]] w fun e w' => e = .returned (.agg #[.int .i64 N, .int .i64 D]) ∧ Below w.heap.size w w'))) (HU : (Hid (∀ w, Calls Tryd.prog 63 #[.agg #[.int .i64 N, .int .i64 D]] w fun e w' => e = .returned (.agg #[.int .i64 (-N), .int .i64 D]) ∧ Below w.heap.size w w'))) :
    Calls Tryd.prog 35 #[.agg #[.int .i64 a, .int .i64 b], .agg #[.int .i64 c, .int .i64 d]] w fun e w' => e = .returned (.tuple #[.agg #[.int .i64 (-N), .int .i64 D], .bool true]) ∧ Below w.heap.size w w' := by
  go_enter Tryd.func35, Tryd.ntmps35
  go_wp2_with fail
  refine (HB.out _).mono ?_; rintro e v1 ⟨rfl, hb1⟩
  have st1 := bl_step (bl_alloc (bl_alloc (bl_alloc (Below.refl _ _) _) _) _) hb1
  have bl1 := st1
  have Ba_1 : Blk v1 (w.heap.size) 23 #[.int .i64 a, .int .i64 b] := (((Blk.new _ _ _).alloc _).alloc _).below hb1
  have Bc_1 : Blk v1 (w.heap.size + 1) 23 #[.int .i64 c, .int .i64 d] := ((Blk.new' (by simp) _ _).alloc _).below hb1
  have Br_1 : Blk v1 (w.heap.size + 1 + 1) 23 #[.int .i64 0, .int .i64 0] := (Blk.new' (by simp) _ _).below hb1
  have a_1_z : w.heap.size < v1.heap.size := Ba_1.lt
  have a_1_c0 : v1.cell? ⟨w.heap.size, 0, none⟩ = some (.int .i64 a) := (Ba_1.cell 0).trans rfl
  have a_1_f0 := Ba_1.frozen 0
  have a_1_c1 : v1.cell? ⟨w.heap.size, 1, none⟩ = some (.int .i64 b) := (Ba_1.cell 1).trans rfl
  have a_1_f1 := Ba_1.frozen 1
  have c_1_z : w.heap.size + 1 < v1.heap.size := Bc_1.lt
  have c_1_c0 : v1.cell? ⟨w.heap.size + 1, 0, none⟩ = some (.int .i64 c) := (Bc_1.cell 0).trans rfl
  have c_1_f0 := Bc_1.frozen 0
  have c_1_c1 : v1.cell? ⟨w.heap.size + 1, 1, none⟩ = some (.int .i64 d) := (Bc_1.cell 1).trans rfl
  have c_1_f1 := Bc_1.frozen 1
  have r_1_z : w.heap.size + 1 + 1 < v1.heap.size := Br_1.lt
  have r_1_c0 : v1.cell? ⟨w.heap.size + 1 + 1, 0, none⟩ = some (.int .i64 0) := (Br_1.cell 0).trans rfl
  have r_1_f0 := Br_1.frozen 0
  have r_1_c1 : v1.cell? ⟨w.heap.size + 1 + 1, 1, none⟩ = some (.int .i64 0) := (Br_1.cell 1).trans rfl
  have r_1_f1 := Br_1.frozen 1
  go_wp2_with fail
  refine (HC.out _).mono ?_; rintro e v2 ⟨rfl, hb2⟩
  have st2 := bl_step (Below.refl _ _) hb2
  have bl2 := bl_step bl1 st2
  clear a_1_z a_1_c0 a_1_f0 a_1_c1 a_1_f1
  have Ba_2 := Ba_1.below st2
  clear c_1_z c_1_c0 c_1_f0 c_1_c1 c_1_f1
  have Bc_2 := Bc_1.below st2
  clear r_1_z r_1_c0 r_1_f0 r_1_c1 r_1_f1
  have Br_2 := Br_1.below st2
  have a_2_z : w.heap.size < v2.heap.size := Ba_2.lt
  have a_2_c0 : v2.cell? ⟨w.heap.size, 0, none⟩ = some (.int .i64 a) := (Ba_2.cell 0).trans rfl
  have a_2_f0 := Ba_2.frozen 0
  have a_2_c1 : v2.cell? ⟨w.heap.size, 1, none⟩ = some (.int .i64 b) := (Ba_2.cell 1).trans rfl
  have a_2_f1 := Ba_2.frozen 1
  have c_2_z : w.heap.size + 1 < v2.heap.size := Bc_2.lt
  have c_2_c0 : v2.cell? ⟨w.heap.size + 1, 0, none⟩ = some (.int .i64 c) := (Bc_2.cell 0).trans rfl
  have c_2_f0 := Bc_2.frozen 0
  have c_2_c1 : v2.cell? ⟨w.heap.size + 1, 1, none⟩ = some (.int .i64 d) := (Bc_2.cell 1).trans rfl
  have c_2_f1 := Bc_2.frozen 1
  have r_2_z : w.heap.size + 1 + 1 < v2.heap.size := Br_2.lt
  have r_2_c0 : v2.cell? ⟨w.heap.size + 1 + 1, 0, none⟩ = some (.int .i64 0) := (Br_2.cell 0).trans rfl
  have r_2_f0 := Br_2.frozen 0
  have r_2_c1 : v2.cell? ⟨w.heap.size + 1 + 1, 1, none⟩ = some (.int .i64 0) := (Br_2.cell 1).trans rfl
  have r_2_f1 := Br_2.frozen 1
  go_wp2_with fail
  refine (H1.out _).mono ?_; rintro e v3 ⟨rfl, hb3⟩
  have st3 := bl_step (Below.refl _ _) hb3
  have bl3 := bl_step bl2 st3
  clear a_2_z a_2_c0 a_2_f0 a_2_c1 a_2_f1
  have Ba_3 := Ba_2.below st3
  clear c_2_z c_2_c0 c_2_f0 c_2_c1 c_2_f1
  have Bc_3 := Bc_2.below st3
  clear r_2_z r_2_c0 r_2_f0 r_2_c1 r_2_f1
  have Br_3 := Br_2.below st3
  have a_3_z : w.heap.size < v3.heap.size := Ba_3.lt
  have a_3_c0 : v3.cell? ⟨w.heap.size, 0, none⟩ = some (.int .i64 a) := (Ba_3.cell 0).trans rfl
  have a_3_f0 := Ba_3.frozen 0
  have a_3_c1 : v3.cell? ⟨w.heap.size, 1, none⟩ = some (.int .i64 b) := (Ba_3.cell 1).trans rfl
  have a_3_f1 := Ba_3.frozen 1
  have c_3_z : w.heap.size + 1 < v3.heap.size := Bc_3.lt
  have c_3_c0 : v3.cell? ⟨w.heap.size + 1, 0, none⟩ = some (.int .i64 c) := (Bc_3.cell 0).trans rfl
  have c_3_f0 := Bc_3.frozen 0
  have c_3_c1 : v3.cell? ⟨w.heap.size + 1, 1, none⟩ = some (.int .i64 d) := (Bc_3.cell 1).trans rfl
  have c_3_f1 := Bc_3.frozen 1
  have r_3_z : w.heap.size + 1 + 1 < v3.heap.size := Br_3.lt
  have r_3_c0 : v3.cell? ⟨w.heap.size + 1 + 1, 0, none⟩ = some (.int .i64 0) := (Br_3.cell 0).trans rfl
  have r_3_f0 := Br_3.frozen 0
  have r_3_c1 : v3.cell? ⟨w.heap.size + 1 + 1, 1, none⟩ = some (.int .i64 0) := (Br_3.cell 1).trans rfl
  have r_3_f1 := Br_3.frozen 1
  go_wp2_with fail
  refine (H2.out _).mono ?_; rintro e v4 ⟨rfl, hb4⟩
  have st4 := bl_step (Below.refl _ _) hb4
  have bl4 := bl_step bl3 st4
  clear a_3_z a_3_c0 a_3_f0 a_3_c1 a_3_f1
  have Ba_4 := Ba_3.below st4
  clear c_3_z c_3_c0 c_3_f0 c_3_c1 c_3_f1
  have Bc_4 := Bc_3.below st4
  clear r_3_z r_3_c0 r_3_f0 r_3_c1 r_3_f1
  have Br_4 := Br_3.below st4
  have a_4_z : w.heap.size < v4.heap.size := Ba_4.lt
  have a_4_c0 : v4.cell? ⟨w.heap.size, 0, none⟩ = some (.int .i64 a) := (Ba_4.cell 0).trans rfl
  have a_4_f0 := Ba_4.frozen 0
  have a_4_c1 : v4.cell? ⟨w.heap.size, 1, none⟩ = some (.int .i64 b) := (Ba_4.cell 1).trans rfl
  have a_4_f1 := Ba_4.frozen 1
  have c_4_z : w.heap.size + 1 < v4.heap.size := Bc_4.lt
  have c_4_c0 : v4.cell? ⟨w.heap.size + 1, 0, none⟩ = some (.int .i64 c) := (Bc_4.cell 0).trans rfl
  have c_4_f0 := Bc_4.frozen 0
  have c_4_c1 : v4.cell? ⟨w.heap.size + 1, 1, none⟩ = some (.int .i64 d) := (Bc_4.cell 1).trans rfl
  have c_4_f1 := Bc_4.frozen 1
  have r_4_z : w.heap.size + 1 + 1 < v4.heap.size := Br_4.lt
  have r_4_c0 : v4.cell? ⟨w.heap.size + 1 + 1, 0, none⟩ = some (.int .i64 0) := (Br_4.cell 0).trans rfl
  have r_4_f0 := Br_4.frozen 0
  have r_4_c1 : v4.cell? ⟨w.heap.size + 1 + 1, 1, none⟩ = some (.int .i64 0) := (Br_4.cell 1).trans rfl
  have r_4_f1 := Br_4.frozen 1
  go_wp2_with fail
  refine (HT.out _).mono ?_; rintro e v5 ⟨rfl, hb5⟩
  have st5 := bl_step (Below.refl _ _) hb5
  have bl5 := bl_step bl4 st5
  clear a_4_z a_4_c0 a_4_f0 a_4_c1 a_4_f1
  have Ba_5 := Ba_4.below st5
  clear c_4_z c_4_c0 c_4_f0 c_4_c1 c_4_f1
  have Bc_5 := Bc_4.below st5
  clear r_4_z r_4_c0 r_4_f0 r_4_c1 r_4_f1
  have Br_5 := Br_4.below st5
  have a_5_z : w.heap.size < v5.heap.size := Ba_5.lt
  have a_5_c0 : v5.cell? ⟨w.heap.size, 0, none⟩ = some (.int .i64 a) := (Ba_5.cell 0).trans rfl
  have a_5_f0 := Ba_5.frozen 0
  have a_5_c1 : v5.cell? ⟨w.heap.size, 1, none⟩ = some (.int .i64 b) := (Ba_5.cell 1).trans rfl
  have a_5_f1 := Ba_5.frozen 1
  have c_5_z : w.heap.size + 1 < v5.heap.size := Bc_5.lt
  have c_5_c0 : v5.cell? ⟨w.heap.size + 1, 0, none⟩ = some (.int .i64 c) := (Bc_5.cell 0).trans rfl
  have c_5_f0 := Bc_5.frozen 0
  have c_5_c1 : v5.cell? ⟨w.heap.size + 1, 1, none⟩ = some (.int .i64 d) := (Bc_5.cell 1).trans rfl
  have c_5_f1 := Bc_5.frozen 1
  have r_5_z : w.heap.size + 1 + 1 < v5.heap.size := Br_5.lt
  have r_5_c0 : v5.cell? ⟨w.heap.size + 1 + 1, 0, none⟩ = some (.int .i64 0) := (Br_5.cell 0).trans rfl
  have r_5_f0 := Br_5.frozen 0
  have r_5_c1 : v5.cell? ⟨w.heap.size + 1 + 1, 1, none⟩ = some (.int .i64 0) := (Br_5.cell 1).trans rfl
  have r_5_f1 := Br_5.frozen 1
  go_wp2_with fail
  refine (HU.out _).mono ?_; rintro e v6 ⟨rfl, hb6⟩
  have st6 := bl_step (Below.refl _ _) hb6
  have bl6 := bl_step bl5 st6
  clear a_5_z a_5_c0 a_5_f0 a_5_c1 a_5_f1
  have Ba_6 := Ba_5.below st6
  clear c_5_z c_5_c0 c_5_f0 c_5_c1 c_5_f1
  have Bc_6 := Bc_5.below st6
  clear r_5_z r_5_c0 r_5_f0 r_5_c1 r_5_f1
  have Br_6 := Br_5.below st6
  have a_6_z : w.heap.size < v6.heap.size := Ba_6.lt
  have a_6_c0 : v6.cell? ⟨w.heap.size, 0, none⟩ = some (.int .i64 a) := (Ba_6.cell 0).trans rfl
  have a_6_f0 := Ba_6.frozen 0
  have a_6_c1 : v6.cell? ⟨w.heap.size, 1, none⟩ = some (.int .i64 b) := (Ba_6.cell 1).trans rfl
  have a_6_f1 := Ba_6.frozen 1
  have c_6_z : w.heap.size + 1 < v6.heap.size := Bc_6.lt
  have c_6_c0 : v6.cell? ⟨w.heap.size + 1, 0, none⟩ = some (.int .i64 c) := (Bc_6.cell 0).trans rfl
  have c_6_f0 := Bc_6.frozen 0
  have c_6_c1 : v6.cell? ⟨w.heap.size + 1, 1, none⟩ = some (.int .i64 d) := (Bc_6.cell 1).trans rfl
  have c_6_f1 := Bc_6.frozen 1
  have r_6_z : w.heap.size + 1 + 1 < v6.heap.size := Br_6.lt
  have r_6_c0 : v6.cell? ⟨w.heap.size + 1 + 1, 0, none⟩ = some (.int .i64 0) := (Br_6.cell 0).trans rfl
  have r_6_f0 := Br_6.frozen 0
  have r_6_c1 : v6.cell? ⟨w.heap.size + 1 + 1, 1, none⟩ = some (.int .i64 0) := (Br_6.cell 1).trans rfl
  have r_6_f1 := Br_6.frozen 1
  go_wp2
  refine bodyPost_ret (v := .tuple #[.agg #[.int .i64 (-N), .int .i64 D], .bool true]) (by simp [results, Tryd.results35, go_sem, r_6_c0, r_6_f0, r_6_c1, r_6_f1, r_6_z]) rfl ⟨rfl, ?_⟩
  (repeat (first | exact Below.refl _ _ | with_reducible assumption | refine bl_alloc ?_ _ | refine bl_set ?_ (by simp <;> omega) _ | refine bl_drew ?_ | refine bl_drewN ?_ _ | refine bl_step ?_ (by assumption)))
end Go.Proofs.YtkdklmkcanjjfaaDoor
