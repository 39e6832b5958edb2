/- The walks of ratio and of its reference, part K: Sub, Quo. -/
import Derived.Test.YtkdklmkcanjjfaaDoorRatJ
namespace Go.Proofs.YtkdklmkcanjjfaaDoor
open Go.RowKit
set_option linter.unusedVariables false
set_option linter.unusedSimpArgs false
set_option maxRecDepth 100000

def subOk (c d : Int) : Bool := fitB (-c) && goodB c d
def subN (a b c d : Int) : Int := if subOk c d = true then addN a b (-c) d else 0
def subD (a b c d : Int) : Int := if subOk c d = true then addD a b (-c) d else 0
def subB (a b c d : Int) : Bool := subOk c d && addB a b (-c) d
def quoOk (c d : Int) : Bool := mkB d c && goodB c d
def quoN (a b c d : Int) : Int := if quoOk c d = true then mulN a b (mkN d c) (mkD d c) else 0
def quoD (a b c d : Int) : Int := if quoOk c d = true then mulD a b (mkN d c) (mkD d c) else 0
def quoB (a b c d : Int) : Bool := quoOk c d && mulB a b (mkN d c) (mkD d c)
set_option maxHeartbeats 1600000 in
theorem rsub_core (a b c d n m N D : Int) (x y z : Bool) (w : World) 
    (H1 : (Hid (∀ w, Calls Tryd.prog 61 #[.int .i64 c] w fun e w' => e = .returned (.tuple #[.int .i64 n, .bool x]) ∧ Below w.heap.size w w')))
    (H2 : (Hid (∀ w, Calls Tryd.prog 14 #[.agg #[.int .i64 c, .int .i64 d]] w fun e w' => e = .returned (.bool y) ∧ Below w.heap.size w w')))
    (H3 : (Hid (∀ w, Calls Tryd.prog 27 #[.agg #[.int .i64 a, .int .i64 b], .agg #[.int .i64 n, .int .i64 d]] w fun e w' => e = .returned (.tuple #[.agg #[.int .i64 N, .int .i64 D], .bool z]) ∧ Below w.heap.size w w'))) :
    Calls Tryd.prog 31 #[.agg #[.int .i64 a, .int .i64 b], .agg #[.int .i64 c, .int .i64 d]] w fun e w' => e = .returned (.tuple #[.agg #[.int .i64 (if (x && y) = true then N else 0), .int .i64 (if (x && y) = true then D else 0)], .bool ((x && y) && z)]) ∧ Below w.heap.size w w' := by
  cases x
  · go_enter Tryd.func31, Tryd.ntmps31
    go_wp2_with fail
    refine (H1.out _).mono ?_; rintro e v1 ⟨rfl, hb1⟩
    have st1 := bl_step (bl_alloc (bl_alloc (bl_alloc (Below.refl _ _) _) _) _) hb1
    have bl1 := st1
    have Ba_1 : Blk v1 (w.heap.size) 23 #[.int .i64 a, .int .i64 b] := (((Blk.new _ _ _).alloc _).alloc _).below hb1
    have Bc_1 : Blk v1 (w.heap.size + 1) 23 #[.int .i64 c, .int .i64 d] := ((Blk.new' (by simp) _ _).alloc _).below hb1
    have Br_1 : Blk v1 (w.heap.size + 1 + 1) 23 #[.int .i64 0, .int .i64 0] := (Blk.new' (by simp) _ _).below hb1
    have a_1_z : w.heap.size < v1.heap.size := Ba_1.lt
    have a_1_c0 : v1.cell? ⟨w.heap.size, 0, none⟩ = some (.int .i64 a) := (Ba_1.cell 0).trans rfl
    have a_1_f0 := Ba_1.frozen 0
    have a_1_c1 : v1.cell? ⟨w.heap.size, 1, none⟩ = some (.int .i64 b) := (Ba_1.cell 1).trans rfl
    have a_1_f1 := Ba_1.frozen 1
    have c_1_z : w.heap.size + 1 < v1.heap.size := Bc_1.lt
    have c_1_c0 : v1.cell? ⟨w.heap.size + 1, 0, none⟩ = some (.int .i64 c) := (Bc_1.cell 0).trans rfl
    have c_1_f0 := Bc_1.frozen 0
    have c_1_c1 : v1.cell? ⟨w.heap.size + 1, 1, none⟩ = some (.int .i64 d) := (Bc_1.cell 1).trans rfl
    have c_1_f1 := Bc_1.frozen 1
    have r_1_z : w.heap.size + 1 + 1 < v1.heap.size := Br_1.lt
    have r_1_c0 : v1.cell? ⟨w.heap.size + 1 + 1, 0, none⟩ = some (.int .i64 0) := (Br_1.cell 0).trans rfl
    have r_1_f0 := Br_1.frozen 0
    have r_1_c1 : v1.cell? ⟨w.heap.size + 1 + 1, 1, none⟩ = some (.int .i64 0) := (Br_1.cell 1).trans rfl
    have r_1_f1 := Br_1.frozen 1
    go_wp2
    refine bodyPost_ret (v := .tuple #[.agg #[.int .i64 0, .int .i64 0], .bool false]) (by simp [results, Tryd.results31, go_sem, r_1_c0, r_1_f0, r_1_c1, r_1_f1, r_1_z]) rfl ⟨rfl, ?_⟩
    (repeat (first | exact Below.refl _ _ | with_reducible assumption | refine bl_alloc ?_ _ | refine bl_set ?_ (by simp <;> omega) _ | refine bl_drew ?_ | refine bl_drewN ?_ _ | refine bl_step ?_ (by assumption)))
  · cases y
    · go_enter Tryd.func31, Tryd.ntmps31
      go_wp2_with fail
      refine (H1.out _).mono ?_; rintro e v1 ⟨rfl, hb1⟩
      have st1 := bl_step (bl_alloc (bl_alloc (bl_alloc (Below.refl _ _) _) _) _) hb1
      have bl1 := st1
      have Ba_1 : Blk v1 (w.heap.size) 23 #[.int .i64 a, .int .i64 b] := (((Blk.new _ _ _).alloc _).alloc _).below hb1
      have Bc_1 : Blk v1 (w.heap.size + 1) 23 #[.int .i64 c, .int .i64 d] := ((Blk.new' (by simp) _ _).alloc _).below hb1
      have Br_1 : Blk v1 (w.heap.size + 1 + 1) 23 #[.int .i64 0, .int .i64 0] := (Blk.new' (by simp) _ _).below hb1
      have a_1_z : w.heap.size < v1.heap.size := Ba_1.lt
      have a_1_c0 : v1.cell? ⟨w.heap.size, 0, none⟩ = some (.int .i64 a) := (Ba_1.cell 0).trans rfl
      have a_1_f0 := Ba_1.frozen 0
      have a_1_c1 : v1.cell? ⟨w.heap.size, 1, none⟩ = some (.int .i64 b) := (Ba_1.cell 1).trans rfl
      have a_1_f1 := Ba_1.frozen 1
      have c_1_z : w.heap.size + 1 < v1.heap.size := Bc_1.lt
      have c_1_c0 : v1.cell? ⟨w.heap.size + 1, 0, none⟩ = some (.int .i64 c) := (Bc_1.cell 0).trans rfl
      have c_1_f0 := Bc_1.frozen 0
      have c_1_c1 : v1.cell? ⟨w.heap.size + 1, 1, none⟩ = some (.int .i64 d) := (Bc_1.cell 1).trans rfl
      have c_1_f1 := Bc_1.frozen 1
      have r_1_z : w.heap.size + 1 + 1 < v1.heap.size := Br_1.lt
      have r_1_c0 : v1.cell? ⟨w.heap.size + 1 + 1, 0, none⟩ = some (.int .i64 0) := (Br_1.cell 0).trans rfl
      have r_1_f0 := Br_1.frozen 0
      have r_1_c1 : v1.cell? ⟨w.heap.size + 1 + 1, 1, none⟩ = some (.int .i64 0) := (Br_1.cell 1).trans rfl
      have r_1_f1 := Br_1.frozen 1
      go_wp2_with fail
      refine (H2.out _).mono ?_; rintro e v2 ⟨rfl, hb2⟩
      have st2 := bl_step (Below.refl _ _) hb2
      have bl2 := bl_step bl1 st2
      clear a_1_z a_1_c0 a_1_f0 a_1_c1 a_1_f1
      have Ba_2 := Ba_1.below st2
      clear c_1_z c_1_c0 c_1_f0 c_1_c1 c_1_f1
      have Bc_2 := Bc_1.below st2
      clear r_1_z r_1_c0 r_1_f0 r_1_c1 r_1_f1
      have Br_2 := Br_1.below st2
      have a_2_z : w.heap.size < v2.heap.size := Ba_2.lt
      have a_2_c0 : v2.cell? ⟨w.heap.size, 0, none⟩ = some (.int .i64 a) := (Ba_2.cell 0).trans rfl
      have a_2_f0 := Ba_2.frozen 0
      have a_2_c1 : v2.cell? ⟨w.heap.size, 1, none⟩ = some (.int .i64 b) := (Ba_2.cell 1).trans rfl
      have a_2_f1 := Ba_2.frozen 1
      have c_2_z : w.heap.size + 1 < v2.heap.size := Bc_2.lt
      have c_2_c0 : v2.cell? ⟨w.heap.size + 1, 0, none⟩ = some (.int .i64 c) := (Bc_2.cell 0).trans rfl
      have c_2_f0 := Bc_2.frozen 0
      have c_2_c1 : v2.cell? ⟨w.heap.size + 1, 1, none⟩ = some (.int .i64 d) := (Bc_2.cell 1).trans rfl
      have c_2_f1 := Bc_2.frozen 1
      have r_2_z : w.heap.size + 1 + 1 < v2.heap.size := Br_2.lt
      have r_2_c0 : v2.cell? ⟨w.heap.size + 1 + 1, 0, none⟩ = some (.int .i64 0) := (Br_2.cell 0).trans rfl
      have r_2_f0 := Br_2.frozen 0
      have r_2_c1 : v2.cell? ⟨w.heap.size + 1 + 1, 1, none⟩ = some (.int .i64 0) := (Br_2.cell 1).trans rfl
      have r_2_f1 := Br_2.frozen 1
      go_wp2
      refine bodyPost_ret (v := .tuple #[.agg #[.int .i64 0, .int .i64 0], .bool false]) (by simp [results, Tryd.results31, go_sem, r_2_c0, r_2_f0, r_2_c1, r_2_f1, r_2_z]) rfl ⟨rfl, ?_⟩
      (repeat (first | exact Below.refl _ _ | with_reducible assumption | refine bl_alloc ?_ _ | refine bl_set ?_ (by simp <;> omega) _ | refine bl_drew ?_ | refine bl_drewN ?_ _ | refine bl_step ?_ (by assumption)))
    · go_enter Tryd.func31, Tryd.ntmps31
      go_wp2_with fail
      refine (H1.out _).mono ?_; rintro e v1 ⟨rfl, hb1⟩
      have st1 := bl_step (bl_alloc (bl_alloc (bl_alloc (Below.refl _ _) _) _) _) hb1
      have bl1 := st1
      have Ba_1 : Blk v1 (w.heap.size) 23 #[.int .i64 a, .int .i64 b] := (((Blk.new _ _ _).alloc _).alloc _).below hb1
      have Bc_1 : Blk v1 (w.heap.size + 1) 23 #[.int .i64 c, .int .i64 d] := ((Blk.new' (by simp) _ _).alloc _).below hb1
      have Br_1 : Blk v1 (w.heap.size + 1 + 1) 23 #[.int .i64 0, .int .i64 0] := (Blk.new' (by simp) _ _).below hb1
      have a_1_z : w.heap.size < v1.heap.size := Ba_1.lt
      have a_1_c0 : v1.cell? ⟨w.heap.size, 0, none⟩ = some (.int .i64 a) := (Ba_1.cell 0).trans rfl
      have a_1_f0 := Ba_1.frozen 0
      have a_1_c1 : v1.cell? ⟨w.heap.size, 1, none⟩ = some (.int .i64 b) := (Ba_1.cell 1).trans rfl
      have a_1_f1 := Ba_1.frozen 1
      have c_1_z : w.heap.size + 1 < v1.heap.size := Bc_1.lt
      have c_1_c0 : v1.cell? ⟨w.heap.size + 1, 0, none⟩ = some (.int .i64 c) := (Bc_1.cell 0).trans rfl
      have c_1_f0 := Bc_1.frozen 0
      have c_1_c1 : v1.cell? ⟨w.heap.size + 1, 1, none⟩ = some (.int .i64 d) := (Bc_1.cell 1).trans rfl
      have c_1_f1 := Bc_1.frozen 1
      have r_1_z : w.heap.size + 1 + 1 < v1.heap.size := Br_1.lt
      have r_1_c0 : v1.cell? ⟨w.heap.size + 1 + 1, 0, none⟩ = some (.int .i64 0) := (Br_1.cell 0).trans rfl
      have r_1_f0 := Br_1.frozen 0
      have r_1_c1 : v1.cell? ⟨w.heap.size + 1 + 1, 1, none⟩ = some (.int .i64 0) := (Br_1.cell 1).trans rfl
      have r_1_f1 := Br_1.frozen 1
      go_wp2_with fail
      refine (H2.out _).mono ?_; rintro e v2 ⟨rfl, hb2⟩
      have st2 := bl_step (Below.refl _ _) hb2
      have bl2 := bl_step bl1 st2
      clear a_1_z a_1_c0 a_1_f0 a_1_c1 a_1_f1
      have Ba_2 := Ba_1.below st2
      clear c_1_z c_1_c0 c_1_f0 c_1_c1 c_1_f1
      have Bc_2 := Bc_1.below st2
      clear r_1_z r_1_c0 r_1_f0 r_1_c1 r_1_f1
      have Br_2 := Br_1.below st2
      have a_2_z : w.heap.size < v2.heap.size := Ba_2.lt
      have a_2_c0 : v2.cell? ⟨w.heap.size, 0, none⟩ = some (.int .i64 a) := (Ba_2.cell 0).trans rfl
      have a_2_f0 := Ba_2.frozen 0
      have a_2_c1 : v2.cell? ⟨w.heap.size, 1, none⟩ = some (.int .i64 b) := (Ba_2.cell 1).trans rfl
      have a_2_f1 := Ba_2.frozen 1
      have c_2_z : w.heap.size + 1 < v2.heap.size := Bc_2.lt
      have c_2_c0 : v2.cell? ⟨w.heap.size + 1, 0, none⟩ = some (.int .i64 c) := (Bc_2.cell 0).trans rfl
      have c_2_f0 := Bc_2.frozen 0
      have c_2_c1 : v2.cell? ⟨w.heap.size + 1, 1, none⟩ = some (.int .i64 d) := (Bc_2.cell 1).trans rfl
      have c_2_f1 := Bc_2.frozen 1
      have r_2_z : w.heap.size + 1 + 1 < v2.heap.size := Br_2.lt
      have r_2_c0 : v2.cell? ⟨w.heap.size + 1 + 1, 0, none⟩ = some (.int .i64 0) := (Br_2.cell 0).trans rfl
      have r_2_f0 := Br_2.frozen 0
      have r_2_c1 : v2.cell? ⟨w.heap.size + 1 + 1, 1, none⟩ = some (.int .i64 0) := (Br_2.cell 1).trans rfl
      have r_2_f1 := Br_2.frozen 1
      go_wp2_with fail
      refine (H3.out _).mono ?_; rintro e v3 ⟨rfl, hb3⟩
      have st3 := bl_step (Below.refl _ _) hb3
      have bl3 := bl_step bl2 st3
      clear a_2_z a_2_c0 a_2_f0 a_2_c1 a_2_f1
      have Ba_3 := Ba_2.below st3
      clear c_2_z c_2_c0 c_2_f0 c_2_c1 c_2_f1
      have Bc_3 := Bc_2.below st3
      clear r_2_z r_2_c0 r_2_f0 r_2_c1 r_2_f1
      have Br_3 := Br_2.below st3
      have a_3_z : w.heap.size < v3.heap.size := Ba_3.lt
      have a_3_c0 : v3.cell? ⟨w.heap.size, 0, none⟩ = some (.int .i64 a) := (Ba_3.cell 0).trans rfl
      have a_3_f0 := Ba_3.frozen 0
      have a_3_c1 : v3.cell? ⟨w.heap.size, 1, none⟩ = some (.int .i64 b) := (Ba_3.cell 1).trans rfl
      have a_3_f1 := Ba_3.frozen 1
      have c_3_z : w.heap.size + 1 < v3.heap.size := Bc_3.lt
      have c_3_c0 : v3.cell? ⟨w.heap.size + 1, 0, none⟩ = some (.int .i64 c) := (Bc_3.cell 0).trans rfl
      have c_3_f0 := Bc_3.frozen 0
      have c_3_c1 : v3.cell? ⟨w.heap.size + 1, 1, none⟩ = some (.int .i64 d) := (Bc_3.cell 1).trans rfl
      have c_3_f1 := Bc_3.frozen 1
      have r_3_z : w.heap.size + 1 + 1 < v3.heap.size := Br_3.lt
      have r_3_c0 : v3.cell? ⟨w.heap.size + 1 + 1, 0, none⟩ = some (.int .i64 0) := (Br_3.cell 0).trans rfl
      have r_3_f0 := Br_3.frozen 0
      have r_3_c1 : v3.cell? ⟨w.heap.size + 1 + 1, 1, none⟩ = some (.int .i64 0) := (Br_3.cell 1).trans rfl
      have r_3_f1 := Br_3.frozen 1
      go_wp2
      refine bodyPost_ret (v := .tuple #[.agg #[.int .i64 N, .int .i64 D], .bool z]) (by simp [results, Tryd.results31, go_sem, r_3_c0, r_3_f0, r_3_c1, r_3_f1, r_3_z]) rfl ⟨rfl, ?_⟩
      (repeat (first | exact Below.refl _ _ | with_reducible assumption | refine bl_alloc ?_ _ | refine bl_set ?_ (by simp <;> omega) _ | refine bl_drew ?_ | refine bl_drewN ?_ _ | refine bl_step ?_ (by assumption)))
set_option maxHeartbeats 1600000 in
theorem rquo_core (a b c d n m N D : Int) (x y z : Bool) (w : World) 
    (H1 : (Hid (∀ w, Calls Tryd.prog 11 #[.int .i64 d, .int .i64 c] w fun e w' => e = .returned (.tuple #[.agg #[.int .i64 n, .int .i64 m], .bool x]) ∧ Below w.heap.size w w')))
    (H2 : (Hid (∀ w, Calls Tryd.prog 14 #[.agg #[.int .i64 c, .int .i64 d]] w fun e w' => e = .returned (.bool y) ∧ Below w.heap.size w w')))
    (H3 : (Hid (∀ w, Calls Tryd.prog 29 #[.agg #[.int .i64 a, .int .i64 b], .agg #[.int .i64 n, .int .i64 m]] w fun e w' => e = .returned (.tuple #[.agg #[.int .i64 N, .int .i64 D], .bool z]) ∧ Below w.heap.size w w'))) :
    Calls Tryd.prog 33 #[.agg #[.int .i64 a, .int .i64 b], .agg #[.int .i64 c, .int .i64 d]] w fun e w' => e = .returned (.tuple #[.agg #[.int .i64 (if (x && y) = true then N else 0), .int .i64 (if (x && y) = true then D else 0)], .bool ((x && y) && z)]) ∧ Below w.heap.size w w' := by
  cases x
  · go_enter Tryd.func33, Tryd.ntmps33
    go_wp2_with fail
    refine (H1.out _).mono ?_; rintro e v1 ⟨rfl, hb1⟩
    have st1 := bl_step (bl_alloc (bl_alloc (bl_alloc (Below.refl _ _) _) _) _) hb1
    have bl1 := st1
    have Ba_1 : Blk v1 (w.heap.size) 23 #[.int .i64 a, .int .i64 b] := (((Blk.new _ _ _).alloc _).alloc _).below hb1
    have Bc_1 : Blk v1 (w.heap.size + 1) 23 #[.int .i64 c, .int .i64 d] := ((Blk.new' (by simp) _ _).alloc _).below hb1
    have Br_1 : Blk v1 (w.heap.size + 1 + 1) 23 #[.int .i64 0, .int .i64 0] := (Blk.new' (by simp) _ _).below hb1
    have a_1_z : w.heap.size < v1.heap.size := Ba_1.lt
    have a_1_c0 : v1.cell? ⟨w.heap.size, 0, none⟩ = some (.int .i64 a) := (Ba_1.cell 0).trans rfl
    have a_1_f0 := Ba_1.frozen 0
    have a_1_c1 : v1.cell? ⟨w.heap.size, 1, none⟩ = some (.int .i64 b) := (Ba_1.cell 1).trans rfl
    have a_1_f1 := Ba_1.frozen 1
    have c_1_z : w.heap.size + 1 < v1.heap.size := Bc_1.lt
    have c_1_c0 : v1.cell? ⟨w.heap.size + 1, 0, none⟩ = some (.int .i64 c) := (Bc_1.cell 0).trans rfl
    have c_1_f0 := Bc_1.frozen 0
    have c_1_c1 : v1.cell? ⟨w.heap.size + 1, 1, none⟩ = some (.int .i64 d) := (Bc_1.cell 1).trans rfl
    have c_1_f1 := Bc_1.frozen 1
    have r_1_z : w.heap.size + 1 + 1 < v1.heap.size := Br_1.lt
    have r_1_c0 : v1.cell? ⟨w.heap.size + 1 + 1, 0, none⟩ = some (.int .i64 0) := (Br_1.cell 0).trans rfl
    have r_1_f0 := Br_1.frozen 0
    have r_1_c1 : v1.cell? ⟨w.heap.size + 1 + 1, 1, none⟩ = some (.int .i64 0) := (Br_1.cell 1).trans rfl
    have r_1_f1 := Br_1.frozen 1
    go_wp2
    refine bodyPost_ret (v := .tuple #[.agg #[.int .i64 0, .int .i64 0], .bool false]) (by simp [results, Tryd.results33, go_sem, r_1_c0, r_1_f0, r_1_c1, r_1_f1, r_1_z]) rfl ⟨rfl, ?_⟩
    (repeat (first | exact Below.refl _ _ | with_reducible assumption | refine bl_alloc ?_ _ | refine bl_set ?_ (by simp <;> omega) _ | refine bl_drew ?_ | refine bl_drewN ?_ _ | refine bl_step ?_ (by assumption)))
  · cases y
    · go_enter Tryd.func33, Tryd.ntmps33
      go_wp2_with fail
      refine (H1.out _).mono ?_; rintro e v1 ⟨rfl, hb1⟩
      have st1 := bl_step (bl_alloc (bl_alloc (bl_alloc (Below.refl _ _) _) _) _) hb1
      have bl1 := st1
      have Ba_1 : Blk v1 (w.heap.size) 23 #[.int .i64 a, .int .i64 b] := (((Blk.new _ _ _).alloc _).alloc _).below hb1
      have Bc_1 : Blk v1 (w.heap.size + 1) 23 #[.int .i64 c, .int .i64 d] := ((Blk.new' (by simp) _ _).alloc _).below hb1
      have Br_1 : Blk v1 (w.heap.size + 1 + 1) 23 #[.int .i64 0, .int .i64 0] := (Blk.new' (by simp) _ _).below hb1
      have a_1_z : w.heap.size < v1.heap.size := Ba_1.lt
      have a_1_c0 : v1.cell? ⟨w.heap.size, 0, none⟩ = some (.int .i64 a) := (Ba_1.cell 0).trans rfl
      have a_1_f0 := Ba_1.frozen 0
      have a_1_c1 : v1.cell? ⟨w.heap.size, 1, none⟩ = some (.int .i64 b) := (Ba_1.cell 1).trans rfl
      have a_1_f1 := Ba_1.frozen 1
      have c_1_z : w.heap.size + 1 < v1.heap.size := Bc_1.lt
      have c_1_c0 : v1.cell? ⟨w.heap.size + 1, 0, none⟩ = some (.int .i64 c) := (Bc_1.cell 0).trans rfl
      have c_1_f0 := Bc_1.frozen 0
      have c_1_c1 : v1.cell? ⟨w.heap.size + 1, 1, none⟩ = some (.int .i64 d) := (Bc_1.cell 1).trans rfl
      have c_1_f1 := Bc_1.frozen 1
      have r_1_z : w.heap.size + 1 + 1 < v1.heap.size := Br_1.lt
      have r_1_c0 : v1.cell? ⟨w.heap.size + 1 + 1, 0, none⟩ = some (.int .i64 0) := (Br_1.cell 0).trans rfl
      have r_1_f0 := Br_1.frozen 0
      have r_1_c1 : v1.cell? ⟨w.heap.size + 1 + 1, 1, none⟩ = some (.int .i64 0) := (Br_1.cell 1).trans rfl
      have r_1_f1 := Br_1.frozen 1
      go_wp2_with fail
      refine (H2.out _).mono ?_; rintro e v2 ⟨rfl, hb2⟩
      have st2 := bl_step (bl_alloc (Below.refl _ _) _) hb2
      have bl2 := bl_step bl1 st2
      have Bq_2 : Blk v2 (v1.heap.size) 23 #[.int .i64 n, .int .i64 m] := (Blk.new _ _ _).below hb2
      clear a_1_z a_1_c0 a_1_f0 a_1_c1 a_1_f1
      have Ba_2 := Ba_1.below st2
      clear c_1_z c_1_c0 c_1_f0 c_1_c1 c_1_f1
      have Bc_2 := Bc_1.below st2
      clear r_1_z r_1_c0 r_1_f0 r_1_c1 r_1_f1
      have Br_2 := Br_1.below st2
      have a_2_z : w.heap.size < v2.heap.size := Ba_2.lt
      have a_2_c0 : v2.cell? ⟨w.heap.size, 0, none⟩ = some (.int .i64 a) := (Ba_2.cell 0).trans rfl
      have a_2_f0 := Ba_2.frozen 0
      have a_2_c1 : v2.cell? ⟨w.heap.size, 1, none⟩ = some (.int .i64 b) := (Ba_2.cell 1).trans rfl
      have a_2_f1 := Ba_2.frozen 1
      have c_2_z : w.heap.size + 1 < v2.heap.size := Bc_2.lt
      have c_2_c0 : v2.cell? ⟨w.heap.size + 1, 0, none⟩ = some (.int .i64 c) := (Bc_2.cell 0).trans rfl
      have c_2_f0 := Bc_2.frozen 0
      have c_2_c1 : v2.cell? ⟨w.heap.size + 1, 1, none⟩ = some (.int .i64 d) := (Bc_2.cell 1).trans rfl
      have c_2_f1 := Bc_2.frozen 1
      have r_2_z : w.heap.size + 1 + 1 < v2.heap.size := Br_2.lt
      have r_2_c0 : v2.cell? ⟨w.heap.size + 1 + 1, 0, none⟩ = some (.int .i64 0) := (Br_2.cell 0).trans rfl
      have r_2_f0 := Br_2.frozen 0
      have r_2_c1 : v2.cell? ⟨w.heap.size + 1 + 1, 1, none⟩ = some (.int .i64 0) := (Br_2.cell 1).trans rfl
      have r_2_f1 := Br_2.frozen 1
      have q_2_z : v1.heap.size < v2.heap.size := Bq_2.lt
      have q_2_c0 : v2.cell? ⟨v1.heap.size, 0, none⟩ = some (.int .i64 n) := (Bq_2.cell 0).trans rfl
      have q_2_f0 := Bq_2.frozen 0
      have q_2_c1 : v2.cell? ⟨v1.heap.size, 1, none⟩ = some (.int .i64 m) := (Bq_2.cell 1).trans rfl
      have q_2_f1 := Bq_2.frozen 1
      go_wp2
      refine bodyPost_ret (v := .tuple #[.agg #[.int .i64 0, .int .i64 0], .bool false]) (by simp [results, Tryd.results33, go_sem, r_2_c0, r_2_f0, r_2_c1, r_2_f1, r_2_z]) rfl ⟨rfl, ?_⟩
      (repeat (first | exact Below.refl _ _ | with_reducible assumption | refine bl_alloc ?_ _ | refine bl_set ?_ (by simp <;> omega) _ | refine bl_drew ?_ | refine bl_drewN ?_ _ | refine bl_step ?_ (by assumption)))
    · go_enter Tryd.func33, Tryd.ntmps33
      go_wp2_with fail
      refine (H1.out _).mono ?_; rintro e v1 ⟨rfl, hb1⟩
      have st1 := bl_step (bl_alloc (bl_alloc (bl_alloc (Below.refl _ _) _) _) _) hb1
      have bl1 := st1
      have Ba_1 : Blk v1 (w.heap.size) 23 #[.int .i64 a, .int .i64 b] := (((Blk.new _ _ _).alloc _).alloc _).below hb1
      have Bc_1 : Blk v1 (w.heap.size + 1) 23 #[.int .i64 c, .int .i64 d] := ((Blk.new' (by simp) _ _).alloc _).below hb1
      have Br_1 : Blk v1 (w.heap.size + 1 + 1) 23 #[.int .i64 0, .int .i64 0] := (Blk.new' (by simp) _ _).below hb1
      have a_1_z : w.heap.size < v1.heap.size := Ba_1.lt
      have a_1_c0 : v1.cell? ⟨w.heap.size, 0, none⟩ = some (.int .i64 a) := (Ba_1.cell 0).trans rfl
      have a_1_f0 := Ba_1.frozen 0
      have a_1_c1 : v1.cell? ⟨w.heap.size, 1, none⟩ = some (.int .i64 b) := (Ba_1.cell 1).trans rfl
      have a_1_f1 := Ba_1.frozen 1
      have c_1_z : w.heap.size + 1 < v1.heap.size := Bc_1.lt
      have c_1_c0 : v1.cell? ⟨w.heap.size + 1, 0, none⟩ = some (.int .i64 c) := (Bc_1.cell 0).trans rfl
      have c_1_f0 := Bc_1.frozen 0
      have c_1_c1 : v1.cell? ⟨w.heap.size + 1, 1, none⟩ = some (.int .i64 d) := (Bc_1.cell 1).trans rfl
      have c_1_f1 := Bc_1.frozen 1
      have r_1_z : w.heap.size + 1 + 1 < v1.heap.size := Br_1.lt
      have r_1_c0 : v1.cell? ⟨w.heap.size + 1 + 1, 0, none⟩ = some (.int .i64 0) := (Br_1.cell 0).trans rfl
      have r_1_f0 := Br_1.frozen 0
      have r_1_c1 : v1.cell? ⟨w.heap.size + 1 + 1, 1, none⟩ = some (.int .i64 0) := (Br_1.cell 1).trans rfl
      have r_1_f1 := Br_1.frozen 1
      go_wp2_with fail
      refine (H2.out _).mono ?_; rintro e v2 ⟨rfl, hb2⟩
      have st2 := bl_step (bl_alloc (Below.refl _ _) _) hb2
      have bl2 := bl_step bl1 st2
      have Bq_2 : Blk v2 (v1.heap.size) 23 #[.int .i64 n, .int .i64 m] := (Blk.new _ _ _).below hb2
      clear a_1_z a_1_c0 a_1_f0 a_1_c1 a_1_f1
      have Ba_2 := Ba_1.below st2
      clear c_1_z c_1_c0 c_1_f0 c_1_c1 c_1_f1
      have Bc_2 := Bc_1.below st2
      clear r_1_z r_1_c0 r_1_f0 r_1_c1 r_1_f1
      have Br_2 := Br_1.below st2
      have a_2_z : w.heap.size < v2.heap.size := Ba_2.lt
      have a_2_c0 : v2.cell? ⟨w.heap.size, 0, none⟩ = some (.int .i64 a) := (Ba_2.cell 0).trans rfl
      have a_2_f0 := Ba_2.frozen 0
      have a_2_c1 : v2.cell? ⟨w.heap.size, 1, none⟩ = some (.int .i64 b) := (Ba_2.cell 1).trans rfl
      have a_2_f1 := Ba_2.frozen 1
      have c_2_z : w.heap.size + 1 < v2.heap.size := Bc_2.lt
      have c_2_c0 : v2.cell? ⟨w.heap.size + 1, 0, none⟩ = some (.int .i64 c) := (Bc_2.cell 0).trans rfl
      have c_2_f0 := Bc_2.frozen 0
      have c_2_c1 : v2.cell? ⟨w.heap.size + 1, 1, none⟩ = some (.int .i64 d) := (Bc_2.cell 1).trans rfl
      have c_2_f1 := Bc_2.frozen 1
      have r_2_z : w.heap.size + 1 + 1 < v2.heap.size := Br_2.lt
      have r_2_c0 : v2.cell? ⟨w.heap.size + 1 + 1, 0, none⟩ = some (.int .i64 0) := (Br_2.cell 0).trans rfl
      have r_2_f0 := Br_2.frozen 0
      have r_2_c1 : v2.cell? ⟨w.heap.size + 1 + 1, 1, none⟩ = some (.int .i64 0) := (Br_2.cell 1).trans rfl
      have r_2_f1 := Br_2.frozen 1
      have q_2_z : v1.heap.size < v2.heap.size := Bq_2.lt
      have q_2_c0 : v2.cell? ⟨v1.heap.size, 0, none⟩ = some (.int .i64 n) := (Bq_2.cell 0).trans rfl
      have q_2_f0 := Bq_2.frozen 0
      have q_2_c1 : v2.cell? ⟨v1.heap.size, 1, none⟩ = some (.int .i64 m) := (Bq_2.cell 1).trans rfl
      have q_2_f1 := Bq_2.frozen 1
      go_wp2_with fail
      refine (H3.out _).mono ?_; rintro e v3 ⟨rfl, hb3⟩
      have st3 := bl_step (Below.refl _ _) hb3
      have bl3 := bl_step bl2 st3
      clear a_2_z a_2_c0 a_2_f0 a_2_c1 a_2_f1
      have Ba_3 := Ba_2.below st3
      clear c_2_z c_2_c0 c_2_f0 c_2_c1 c_2_f1
      have Bc_3 := Bc_2.below st3
      clear r_2_z r_2_c0 r_2_f0 r_2_c1 r_2_f1
      have Br_3 := Br_2.below st3
      clear q_2_z q_2_c0 q_2_f0 q_2_c1 q_2_f1
      have Bq_3 := Bq_2.below st3
      have a_3_z : w.heap.size < v3.heap.size := Ba_3.lt
      have a_3_c0 : v3.cell? ⟨w.heap.size, 0, none⟩ = some (.int .i64 a) := (Ba_3.cell 0).trans rfl
      have a_3_f0 := Ba_3.frozen 0
      have a_3_c1 : v3.cell? ⟨w.heap.size, 1, none⟩ = some (.int .i64 b) := (Ba_3.cell 1).trans rfl
      have a_3_f1 := Ba_3.frozen 1
      have c_3_z : w.heap.size + 1 < v3.heap.size := Bc_3.lt
      have c_3_c0 : v3.cell? ⟨w.heap.size + 1, 0, none⟩ = some (.int .i64 c) := (Bc_3.cell 0).trans rfl
      have c_3_f0 := Bc_3.frozen 0
      have c_3_c1 : v3.cell? ⟨w.heap.size + 1, 1, none⟩ = some (.int .i64 d) := (Bc_3.cell 1).trans rfl
      have c_3_f1 := Bc_3.frozen 1
      have r_3_z : w.heap.size + 1 + 1 < v3.heap.size := Br_3.lt
      have r_3_c0 : v3.cell? ⟨w.heap.size + 1 + 1, 0, none⟩ = some (.int .i64 0) := (Br_3.cell 0).trans rfl
      have r_3_f0 := Br_3.frozen 0
      have r_3_c1 : v3.cell? ⟨w.heap.size + 1 + 1, 1, none⟩ = some (.int .i64 0) := (Br_3.cell 1).trans rfl
      have r_3_f1 := Br_3.frozen 1
      have q_3_z : v1.heap.size < v3.heap.size := Bq_3.lt
      have q_3_c0 : v3.cell? ⟨v1.heap.size, 0, none⟩ = some (.int .i64 n) := (Bq_3.cell 0).trans rfl
      have q_3_f0 := Bq_3.frozen 0
      have q_3_c1 : v3.cell? ⟨v1.heap.size, 1, none⟩ = some (.int .i64 m) := (Bq_3.cell 1).trans rfl
      have q_3_f1 := Bq_3.frozen 1
      go_wp2
      refine bodyPost_ret (v := .tuple #[.agg #[.int .i64 N, .int .i64 D], .bool z]) (by simp [results, Tryd.results33, go_sem, r_3_c0, r_3_f0, r_3_c1, r_3_f1, r_3_z]) rfl ⟨rfl, ?_⟩
      (repeat (first | exact Below.refl _ _ | with_reducible assumption | refine bl_alloc ?_ _ | refine bl_set ?_ (by simp <;> omega) _ | refine bl_drew ?_ | refine bl_drewN ?_ _ | refine bl_step ?_ (by assumption)))
set_option maxHeartbeats 1600000 in
theorem bquo_core (a b c d n m N D : Int) (x y z : Bool) (w : World) 
    (H1 : (Hid (∀ w, Calls Tryd.prog 15 #[.int .i64 c, .int .i64 d] w fun e w' => e = .returned (.bool x) ∧ Below w.heap.size w w')))
    (H2 : (Hid (∀ w, Calls Tryd.prog 12 #[.int .i64 d, .int .i64 c] w fun e w' => e = .returned (.tuple #[.int .i64 n, .int .i64 m, .bool y]) ∧ Below w.heap.size w w')))
    (H3 : (Hid (∀ w, Calls Tryd.prog 30 #[.int .i64 a, .int .i64 b, .int .i64 n, .int .i64 m] w fun e w' => e = .returned (.tuple #[.int .i64 N, .int .i64 D, .bool z]) ∧ Below w.heap.size w w'))) :
    Calls Tryd.prog 34 #[.int .i64 a, .int .i64 b, .int .i64 c, .int .i64 d] w fun e w' => e = .returned (.tuple #[.int .i64 (if (x && y) = true then N else 0), .int .i64 (if (x && y) = true then D else 0), .bool ((x && y) && z)]) ∧ Below w.heap.size w w' := by
  cases x
  · go_enter Tryd.func34, Tryd.ntmps34
    go_wp2_with fail
    refine (H1.out _).mono ?_; rintro e v1 ⟨rfl, hb1⟩
    have st1 := bl_step (Below.refl _ _) hb1
    have bl1 := st1
    go_wp2
    go_ret3
    exact ⟨rfl, bl1⟩
  · cases y
    · go_enter Tryd.func34, Tryd.ntmps34
      go_wp2_with fail
      refine (H1.out _).mono ?_; rintro e v1 ⟨rfl, hb1⟩
      have st1 := bl_step (Below.refl _ _) hb1
      have bl1 := st1
      go_wp2_with fail
      refine (H2.out _).mono ?_; rintro e v2 ⟨rfl, hb2⟩
      have st2 := bl_step (Below.refl _ _) hb2
      have bl2 := bl_step bl1 st2
      go_wp2
      go_ret3
      exact ⟨rfl, bl2⟩
    · go_enter Tryd.func34, Tryd.ntmps34
      go_wp2_with fail
      refine (H1.out _).mono ?_; rintro e v1 ⟨rfl, hb1⟩
      have st1 := bl_step (Below.refl _ _) hb1
      have bl1 := st1
      go_wp2_with fail
      refine (H2.out _).mono ?_; rintro e v2 ⟨rfl, hb2⟩
      have st2 := bl_step (Below.refl _ _) hb2
      have bl2 := bl_step bl1 st2
      go_wp2_with fail
      refine (H3.out _).mono ?_; rintro e v3 ⟨rfl, hb3⟩
      have st3 := bl_step (Below.refl _ _) hb3
      have bl3 := bl_step bl2 st3
      go_wp2
      go_ret3
      exact ⟨rfl, bl3⟩
set_option maxHeartbeats 1600000 in
theorem bsub_no (a b d : Int) (x : Bool) (w : World) (H1 : (Hid (∀ w, Calls Tryd.prog 15 #[.int .i64 (-9223372036854775808), .int .i64 d] w fun e w' => e = .returned (.bool x) ∧ Below w.heap.size w w'))) :
    Calls Tryd.prog 32 #[.int .i64 a, .int .i64 b, .int .i64 (-9223372036854775808), .int .i64 d] w fun e w' => e = .returned (.tuple #[.int .i64 0, .int .i64 0, .bool false]) ∧ Below w.heap.size w w' := by
  cases x
  all_goals
    go_enter Tryd.func32, Tryd.ntmps32
    go_wp2_with fail
    refine (H1.out _).mono ?_; rintro e v1 ⟨rfl, hb1⟩
    have st1 := bl_step (Below.refl _ _) hb1
    have bl1 := st1
    go_wp2
    go_ret3
    exact ⟨rfl, bl1⟩
set_option maxHeartbeats 1600000 in
theorem bsub_core (a b c d N D : Int) (x z : Bool) (w : World) (hc : (c == -9223372036854775808) = false) (c1 : -9223372036854775807 ≤ c) (c2 : c ≤ 9223372036854775807) (H1 : (Hid (∀ w, Calls Tryd.prog 15 #[.int .i64 c, .int .i64 d] w fun e w' => e = .returned (.bool x) ∧ Below w.heap.size w w'))) (H2 : (Hid (∀ w, Calls Tryd.prog 28 #[.int .i64 a, .int .i64 b, .int .i64 (-c), .int .i64 d] w fun e w' => e = .returned (.tuple #[.int .i64 N, .int .i64 D, .bool z]) ∧ Below w.heap.size w w'))) :
    Calls Tryd.prog 32 #[.int .i64 a, .int .i64 b, .int .i64 c, .int .i64 d] w fun e w' => e = .returned (.tuple #[.int .i64 (if x = true then N else 0), .int .i64 (if x = true then D else 0), .bool (x && z)]) ∧ Below w.heap.size w w' := by
  cases x
  · go_enter Tryd.func32, Tryd.ntmps32
    go_wp2_with fail
    refine (H1.out _).mono ?_; rintro e v1 ⟨rfl, hb1⟩
    have st1 := bl_step (Below.refl _ _) hb1
    have bl1 := st1
    go_wp2
    go_ret3
    exact ⟨rfl, bl1⟩
  · go_enter Tryd.func32, Tryd.ntmps32
    go_wp2_with fail
    refine (H1.out _).mono ?_; rintro e v1 ⟨rfl, hb1⟩
    have st1 := bl_step (Below.refl _ _) hb1
    have bl1 := st1
    go_wp2_with fail
    refine (H2.out _).mono ?_; rintro e v2 ⟨rfl, hb2⟩
    have st2 := bl_step (Below.refl _ _) hb2
    have bl2 := bl_step bl1 st2
    go_wp2
    go_ret3
    exact ⟨rfl, bl2⟩

theorem mk_in2 (n d : Int) : InI (mkN n d) ∧ InI (mkD n d) := by
  unfold mkN mkD
  cases h : mkB n d
  · rw [if_neg (by decide), if_neg (by decide)]; exact ⟨⟨by decide, by decide⟩, ⟨by decide, by decide⟩⟩
  · unfold mkB at h
    simp only [Bool.and_eq_true] at h
    rw [if_pos rfl, if_pos rfl]
    exact ⟨fitB_iff.1 h.2.1, fitB_iff.1 h.2.2⟩
theorem neg_in {c : Int} (ic : InI c) (h : fitB (-c) = true) : InI (-c) := fitB_iff.1 h
theorem if_same (x : Bool) (p q : Int) (h : x = true → p = q) : (if x = true then p else 0) = (if x = true then q else 0) := by
  cases x
  · rfl
  · exact h rfl
theorem rsub_any (a b c d : Int) (w : World) (ia : InI a) (ib : InI b) (ic : InI c) (id : InI d) :
    Calls Tryd.prog 31 #[.agg #[.int .i64 a, .int .i64 b], .agg #[.int .i64 c, .int .i64 d]] w fun e w' => e = .returned (.tuple #[.agg #[.int .i64 (subN a b c d), .int .i64 (subD a b c d)], .bool (subB a b c d)]) ∧ Below w.heap.size w w' := by
  have h := rsub_core a b c d (fitN (-c)) 0 _ _ _ _ _ w (Lib.hid fun w => Neg_any c w ic) (Lib.hid fun w => good_any c d w ic id) (Lib.hid fun w => radd_any a b (fitN (-c)) d w ia ib (fitN_in _) id)
  unfold subN subD subB subOk
  cases hf : fitB (-c)
  · rw [hf] at h; exact h
  · rw [hf, fitN_yes hf] at h; exact h
theorem bsub_any (a b c d : Int) (w : World) (ia : InI a) (ib : InI b) (ic : InI c) (id : InI d) :
    Calls Tryd.prog 32 #[.int .i64 a, .int .i64 b, .int .i64 c, .int .i64 d] w fun e w' => e = .returned (.tuple #[.int .i64 (subN a b c d), .int .i64 (subD a b c d), .bool (subB a b c d)]) ∧ Below w.heap.size w w' := by
  by_cases hc : c = -9223372036854775808
  · subst hc
    have h := bsub_no a b d _ w (Lib.hid fun w => bgood_any (-9223372036854775808) d w ic id)
    unfold subN subD subB subOk
    rw [show fitB (- -9223372036854775808) = false by decide]
    exact h
  · have hf : fitB (-c) = true := fitB_iff.2 ⟨by obtain ⟨_, h2⟩ := ic; omega, by obtain ⟨h1, _⟩ := ic; omega⟩
    have h := bsub_core a b c d _ _ _ _ w (by simpa using hc) (by obtain ⟨h1, _⟩ := ic; omega) ic.2 (Lib.hid fun w => bgood_any c d w ic id) (Lib.hid fun w => badd_any a b (-c) d w ia ib (fitB_iff.1 hf) id)
    unfold subN subD subB subOk
    rw [hf, Bool.true_and]
    exact h
theorem rquo_any (a b c d : Int) (w : World) (ia : InI a) (ib : InI b) (ic : InI c) (id : InI d) :
    Calls Tryd.prog 33 #[.agg #[.int .i64 a, .int .i64 b], .agg #[.int .i64 c, .int .i64 d]] w fun e w' => e = .returned (.tuple #[.agg #[.int .i64 (quoN a b c d), .int .i64 (quoD a b c d)], .bool (quoB a b c d)]) ∧ Below w.heap.size w w' :=
  rquo_core a b c d (mkN d c) (mkD d c) _ _ _ _ _ w (Lib.hid fun w => rmake_any d c w id ic) (Lib.hid fun w => good_any c d w ic id) (Lib.hid fun w => rmul_any a b _ _ w ia ib (mk_in2 d c).1 (mk_in2 d c).2)
theorem bquo_any (a b c d : Int) (w : World) (ia : InI a) (ib : InI b) (ic : InI c) (id : InI d) :
    Calls Tryd.prog 34 #[.int .i64 a, .int .i64 b, .int .i64 c, .int .i64 d] w fun e w' => e = .returned (.tuple #[.int .i64 (quoN a b c d), .int .i64 (quoD a b c d), .bool (quoB a b c d)]) ∧ Below w.heap.size w w' := by
  have h := bquo_core a b c d (mkN d c) (mkD d c) _ _ _ _ _ w (Lib.hid fun w => bgood_any c d w ic id) (Lib.hid fun w => bmake_any d c w id ic) (Lib.hid fun w => bmul_any a b _ _ w ia ib (mk_in2 d c).1 (mk_in2 d c).2)
  unfold quoN quoD quoB quoOk
  rw [Bool.and_comm (mkB d c)]
  exact h
end Go.Proofs.YtkdklmkcanjjfaaDoor
