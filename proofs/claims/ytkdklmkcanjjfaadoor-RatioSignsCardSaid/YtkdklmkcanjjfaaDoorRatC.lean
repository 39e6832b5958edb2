/- The walks of ratio and of its reference, part C: Cmp, Floor, Ceil. -/
import Derived.Test.YtkdklmkcanjjfaaDoorRatB
import Derived.Test.YtkdklmkcanjjfaaDoorRefJ
namespace Go.Proofs.YtkdklmkcanjjfaaDoor
open Go.RowKit
set_option linter.unusedVariables false
set_option linter.unusedSimpArgs false
set_option maxRecDepth 100000

def cmpR (a b c d : Int) : Int := if (goodB a b && goodB c d) = true then cmp3 (a * d) (c * b) else 0
def wholeR (n d : Int) (up : Bool) : Int := if goodB n d = true then fitN (quoR n d up) else 0
set_option maxHeartbeats 800000 in
theorem both_any (a b c d : Int) (w : World) (ia : InI a) (ib : InI b) (ic : InI c) (id : InI d) :
    Calls Tryd.prog 49 #[.agg #[.int .i64 a, .int .i64 b], .agg #[.int .i64 c, .int .i64 d]] w fun e w' => e = .returned (.bool (goodB a b && goodB c d)) ∧ Below w.heap.size w w' := by
  have H1 := Lib.hid (fun w => good_any a b w ia ib)
  have H2 := Lib.hid (fun w => good_any c d w ic id)
  generalize goodB a b = x at H1 ⊢
  generalize goodB c d = y at H2 ⊢
  cases x
  · go_enter Tryd.func49, Tryd.ntmps49
    go_wp2_with fail
    refine (H1.out _).mono ?_; rintro e v1 ⟨rfl, hb1⟩
    have st1 := bl_step (bl_alloc (bl_alloc (Below.refl _ _) _) _) hb1
    have bl1 := st1
    have Ba_1 : Blk v1 (w.heap.size) 23 #[.int .i64 a, .int .i64 b] := ((Blk.new _ _ _).alloc _).below hb1
    have Bc_1 : Blk v1 (w.heap.size + 1) 23 #[.int .i64 c, .int .i64 d] := (Blk.new' (by simp) _ _).below hb1
    have a_1_z : w.heap.size < v1.heap.size := Ba_1.lt
    have a_1_c0 : v1.cell? ⟨w.heap.size, 0, none⟩ = some (.int .i64 a) := (Ba_1.cell 0).trans rfl
    have a_1_f0 := Ba_1.frozen 0
    have a_1_c1 : v1.cell? ⟨w.heap.size, 1, none⟩ = some (.int .i64 b) := (Ba_1.cell 1).trans rfl
    have a_1_f1 := Ba_1.frozen 1
    have c_1_z : w.heap.size + 1 < v1.heap.size := Bc_1.lt
    have c_1_c0 : v1.cell? ⟨w.heap.size + 1, 0, none⟩ = some (.int .i64 c) := (Bc_1.cell 0).trans rfl
    have c_1_f0 := Bc_1.frozen 0
    have c_1_c1 : v1.cell? ⟨w.heap.size + 1, 1, none⟩ = some (.int .i64 d) := (Bc_1.cell 1).trans rfl
    have c_1_f1 := Bc_1.frozen 1
    go_wp2
    go_ret
    exact ⟨rfl, bl1⟩
  · go_enter Tryd.func49, Tryd.ntmps49
    go_wp2_with fail
    refine (H1.out _).mono ?_; rintro e v1 ⟨rfl, hb1⟩
    have st1 := bl_step (bl_alloc (bl_alloc (Below.refl _ _) _) _) hb1
    have bl1 := st1
    have Ba_1 : Blk v1 (w.heap.size) 23 #[.int .i64 a, .int .i64 b] := ((Blk.new _ _ _).alloc _).below hb1
    have Bc_1 : Blk v1 (w.heap.size + 1) 23 #[.int .i64 c, .int .i64 d] := (Blk.new' (by simp) _ _).below hb1
    have a_1_z : w.heap.size < v1.heap.size := Ba_1.lt
    have a_1_c0 : v1.cell? ⟨w.heap.size, 0, none⟩ = some (.int .i64 a) := (Ba_1.cell 0).trans rfl
    have a_1_f0 := Ba_1.frozen 0
    have a_1_c1 : v1.cell? ⟨w.heap.size, 1, none⟩ = some (.int .i64 b) := (Ba_1.cell 1).trans rfl
    have a_1_f1 := Ba_1.frozen 1
    have c_1_z : w.heap.size + 1 < v1.heap.size := Bc_1.lt
    have c_1_c0 : v1.cell? ⟨w.heap.size + 1, 0, none⟩ = some (.int .i64 c) := (Bc_1.cell 0).trans rfl
    have c_1_f0 := Bc_1.frozen 0
    have c_1_c1 : v1.cell? ⟨w.heap.size + 1, 1, none⟩ = some (.int .i64 d) := (Bc_1.cell 1).trans rfl
    have c_1_f1 := Bc_1.frozen 1
    go_wp2_with fail
    refine (H2.out _).mono ?_; rintro e v2 ⟨rfl, hb2⟩
    have st2 := bl_step (Below.refl _ _) hb2
    have bl2 := bl_step bl1 st2
    clear a_1_z a_1_c0 a_1_f0 a_1_c1 a_1_f1
    have Ba_2 := Ba_1.below st2
    clear c_1_z c_1_c0 c_1_f0 c_1_c1 c_1_f1
    have Bc_2 := Bc_1.below st2
    have a_2_z : w.heap.size < v2.heap.size := Ba_2.lt
    have a_2_c0 : v2.cell? ⟨w.heap.size, 0, none⟩ = some (.int .i64 a) := (Ba_2.cell 0).trans rfl
    have a_2_f0 := Ba_2.frozen 0
    have a_2_c1 : v2.cell? ⟨w.heap.size, 1, none⟩ = some (.int .i64 b) := (Ba_2.cell 1).trans rfl
    have a_2_f1 := Ba_2.frozen 1
    have c_2_z : w.heap.size + 1 < v2.heap.size := Bc_2.lt
    have c_2_c0 : v2.cell? ⟨w.heap.size + 1, 0, none⟩ = some (.int .i64 c) := (Bc_2.cell 0).trans rfl
    have c_2_f0 := Bc_2.frozen 0
    have c_2_c1 : v2.cell? ⟨w.heap.size + 1, 1, none⟩ = some (.int .i64 d) := (Bc_2.cell 1).trans rfl
    have c_2_f1 := Bc_2.frozen 1
    go_wp2
    go_ret
    exact ⟨by simp, bl2⟩
set_option maxHeartbeats 800000 in
theorem rcmp_any (a b c d : Int) (w : World) (ia : InI a) (ib : InI b) (ic : InI c) (id : InI d) :
    Calls Tryd.prog 22 #[.agg #[.int .i64 a, .int .i64 b], .agg #[.int .i64 c, .int .i64 d]] w fun e w' => e = .returned (.int .i64 (cmpR a b c d)) ∧ Below w.heap.size w w' := by
  have H1 := Lib.hid (fun w => both_any a b c d w ia ib ic id)
  have H2 := Lib.hid (fun w => Cross_any a b c d w ia ib ic id)
  unfold cmpR
  generalize (goodB a b && goodB c d) = x at H1 ⊢
  cases x
  · go_enter Tryd.func22, Tryd.ntmps22
    go_wp2_with fail
    refine (H1.out _).mono ?_; rintro e v1 ⟨rfl, hb1⟩
    have st1 := bl_step (bl_alloc (bl_alloc (Below.refl _ _) _) _) hb1
    have bl1 := st1
    have Ba_1 : Blk v1 (w.heap.size) 23 #[.int .i64 a, .int .i64 b] := ((Blk.new _ _ _).alloc _).below hb1
    have Bc_1 : Blk v1 (w.heap.size + 1) 23 #[.int .i64 c, .int .i64 d] := (Blk.new' (by simp) _ _).below hb1
    have a_1_z : w.heap.size < v1.heap.size := Ba_1.lt
    have a_1_c0 : v1.cell? ⟨w.heap.size, 0, none⟩ = some (.int .i64 a) := (Ba_1.cell 0).trans rfl
    have a_1_f0 := Ba_1.frozen 0
    have a_1_c1 : v1.cell? ⟨w.heap.size, 1, none⟩ = some (.int .i64 b) := (Ba_1.cell 1).trans rfl
    have a_1_f1 := Ba_1.frozen 1
    have c_1_z : w.heap.size + 1 < v1.heap.size := Bc_1.lt
    have c_1_c0 : v1.cell? ⟨w.heap.size + 1, 0, none⟩ = some (.int .i64 c) := (Bc_1.cell 0).trans rfl
    have c_1_f0 := Bc_1.frozen 0
    have c_1_c1 : v1.cell? ⟨w.heap.size + 1, 1, none⟩ = some (.int .i64 d) := (Bc_1.cell 1).trans rfl
    have c_1_f1 := Bc_1.frozen 1
    go_wp2
    go_ret
    exact ⟨rfl, bl1⟩
  · go_enter Tryd.func22, Tryd.ntmps22
    go_wp2_with fail
    refine (H1.out _).mono ?_; rintro e v1 ⟨rfl, hb1⟩
    have st1 := bl_step (bl_alloc (bl_alloc (Below.refl _ _) _) _) hb1
    have bl1 := st1
    have Ba_1 : Blk v1 (w.heap.size) 23 #[.int .i64 a, .int .i64 b] := ((Blk.new _ _ _).alloc _).below hb1
    have Bc_1 : Blk v1 (w.heap.size + 1) 23 #[.int .i64 c, .int .i64 d] := (Blk.new' (by simp) _ _).below hb1
    have a_1_z : w.heap.size < v1.heap.size := Ba_1.lt
    have a_1_c0 : v1.cell? ⟨w.heap.size, 0, none⟩ = some (.int .i64 a) := (Ba_1.cell 0).trans rfl
    have a_1_f0 := Ba_1.frozen 0
    have a_1_c1 : v1.cell? ⟨w.heap.size, 1, none⟩ = some (.int .i64 b) := (Ba_1.cell 1).trans rfl
    have a_1_f1 := Ba_1.frozen 1
    have c_1_z : w.heap.size + 1 < v1.heap.size := Bc_1.lt
    have c_1_c0 : v1.cell? ⟨w.heap.size + 1, 0, none⟩ = some (.int .i64 c) := (Bc_1.cell 0).trans rfl
    have c_1_f0 := Bc_1.frozen 0
    have c_1_c1 : v1.cell? ⟨w.heap.size + 1, 1, none⟩ = some (.int .i64 d) := (Bc_1.cell 1).trans rfl
    have c_1_f1 := Bc_1.frozen 1
    go_wp2_with fail
    refine (H2.out _).mono ?_; rintro e v2 ⟨rfl, hb2⟩
    have st2 := bl_step (Below.refl _ _) hb2
    have bl2 := bl_step bl1 st2
    clear a_1_z a_1_c0 a_1_f0 a_1_c1 a_1_f1
    have Ba_2 := Ba_1.below st2
    clear c_1_z c_1_c0 c_1_f0 c_1_c1 c_1_f1
    have Bc_2 := Bc_1.below st2
    have a_2_z : w.heap.size < v2.heap.size := Ba_2.lt
    have a_2_c0 : v2.cell? ⟨w.heap.size, 0, none⟩ = some (.int .i64 a) := (Ba_2.cell 0).trans rfl
    have a_2_f0 := Ba_2.frozen 0
    have a_2_c1 : v2.cell? ⟨w.heap.size, 1, none⟩ = some (.int .i64 b) := (Ba_2.cell 1).trans rfl
    have a_2_f1 := Ba_2.frozen 1
    have c_2_z : w.heap.size + 1 < v2.heap.size := Bc_2.lt
    have c_2_c0 : v2.cell? ⟨w.heap.size + 1, 0, none⟩ = some (.int .i64 c) := (Bc_2.cell 0).trans rfl
    have c_2_f0 := Bc_2.frozen 0
    have c_2_c1 : v2.cell? ⟨w.heap.size + 1, 1, none⟩ = some (.int .i64 d) := (Bc_2.cell 1).trans rfl
    have c_2_f1 := Bc_2.frozen 1
    go_wp2
    go_ret
    exact ⟨rfl, bl2⟩
set_option maxHeartbeats 800000 in
theorem bcmp_any (a b c d : Int) (w : World) (ia : InI a) (ib : InI b) (ic : InI c) (id : InI d) :
    Calls Tryd.prog 23 #[.int .i64 a, .int .i64 b, .int .i64 c, .int .i64 d] w fun e w' => e = .returned (.int .i64 (cmpR a b c d)) ∧ Below w.heap.size w w' := by
  have H1 := Lib.hid (fun w => bgood_any a b w ia ib)
  have H2 := Lib.hid (fun w => bgood_any c d w ic id)
  have H3 := Lib.hid (fun w => BCross_any a b c d w ia ib ic id)
  unfold cmpR
  generalize goodB a b = x at H1 ⊢
  generalize goodB c d = y at H2 ⊢
  cases x <;> cases y
  · go_enter Tryd.func23, Tryd.ntmps23
    go_wp2_with fail
    refine (H1.out _).mono ?_; rintro e v1 ⟨rfl, hb1⟩
    have st1 := bl_step (Below.refl _ _) hb1
    have bl1 := st1
    go_wp2_with fail
    refine (H2.out _).mono ?_; rintro e v2 ⟨rfl, hb2⟩
    have st2 := bl_step (Below.refl _ _) hb2
    have bl2 := bl_step bl1 st2
    go_wp2
    go_ret
    exact ⟨rfl, bl2⟩
  · go_enter Tryd.func23, Tryd.ntmps23
    go_wp2_with fail
    refine (H1.out _).mono ?_; rintro e v1 ⟨rfl, hb1⟩
    have st1 := bl_step (Below.refl _ _) hb1
    have bl1 := st1
    go_wp2_with fail
    refine (H2.out _).mono ?_; rintro e v2 ⟨rfl, hb2⟩
    have st2 := bl_step (Below.refl _ _) hb2
    have bl2 := bl_step bl1 st2
    go_wp2
    go_ret
    exact ⟨rfl, bl2⟩
  · go_enter Tryd.func23, Tryd.ntmps23
    go_wp2_with fail
    refine (H1.out _).mono ?_; rintro e v1 ⟨rfl, hb1⟩
    have st1 := bl_step (Below.refl _ _) hb1
    have bl1 := st1
    go_wp2_with fail
    refine (H2.out _).mono ?_; rintro e v2 ⟨rfl, hb2⟩
    have st2 := bl_step (Below.refl _ _) hb2
    have bl2 := bl_step bl1 st2
    go_wp2
    go_ret
    exact ⟨rfl, bl2⟩
  · go_enter Tryd.func23, Tryd.ntmps23
    go_wp2_with fail
    refine (H1.out _).mono ?_; rintro e v1 ⟨rfl, hb1⟩
    have st1 := bl_step (Below.refl _ _) hb1
    have bl1 := st1
    go_wp2_with fail
    refine (H2.out _).mono ?_; rintro e v2 ⟨rfl, hb2⟩
    have st2 := bl_step (Below.refl _ _) hb2
    have bl2 := bl_step bl1 st2
    go_wp2_with fail
    refine (H3.out _).mono ?_; rintro e v3 ⟨rfl, hb3⟩
    have st3 := bl_step (Below.refl _ _) hb3
    have bl3 := bl_step bl2 st3
    go_wp2
    go_ret
    exact ⟨rfl, bl3⟩
set_option maxHeartbeats 800000 in
theorem rfloor_any (n d : Int) (w : World) (hn : InI n) (hd : InI d) :
    Calls Tryd.prog 24 #[.agg #[.int .i64 n, .int .i64 d]] w fun e w' => e = .returned (.int .i64 (wholeR n d false)) ∧ Below w.heap.size w w' := by
  have H1 := Lib.hid (fun w => good_any n d w hn hd)
  have H2 := fun (hp : goodB n d = true) => Lib.hid (fun w => Floor_any n d w hn hd (by unfold goodB at hp; simp at hp; omega))
  unfold wholeR
  generalize goodB n d = x at H1 H2 ⊢
  cases x
  · clear H2
    go_enter Tryd.func24, Tryd.ntmps24
    go_wp2_with fail
    refine (H1.out _).mono ?_; rintro e v1 ⟨rfl, hb1⟩
    have st1 := bl_step (bl_alloc (Below.refl _ _) _) hb1
    have bl1 := st1
    have Ba_1 : Blk v1 (w.heap.size) 23 #[.int .i64 n, .int .i64 d] := (Blk.new _ _ _).below hb1
    have a_1_z : w.heap.size < v1.heap.size := Ba_1.lt
    have a_1_c0 : v1.cell? ⟨w.heap.size, 0, none⟩ = some (.int .i64 n) := (Ba_1.cell 0).trans rfl
    have a_1_f0 := Ba_1.frozen 0
    have a_1_c1 : v1.cell? ⟨w.heap.size, 1, none⟩ = some (.int .i64 d) := (Ba_1.cell 1).trans rfl
    have a_1_f1 := Ba_1.frozen 1
    go_wp2
    go_ret
    exact ⟨rfl, bl1⟩
  · have H3 := H2 rfl
    clear H2
    go_enter Tryd.func24, Tryd.ntmps24
    go_wp2_with fail
    refine (H1.out _).mono ?_; rintro e v1 ⟨rfl, hb1⟩
    have st1 := bl_step (bl_alloc (Below.refl _ _) _) hb1
    have bl1 := st1
    have Ba_1 : Blk v1 (w.heap.size) 23 #[.int .i64 n, .int .i64 d] := (Blk.new _ _ _).below hb1
    have a_1_z : w.heap.size < v1.heap.size := Ba_1.lt
    have a_1_c0 : v1.cell? ⟨w.heap.size, 0, none⟩ = some (.int .i64 n) := (Ba_1.cell 0).trans rfl
    have a_1_f0 := Ba_1.frozen 0
    have a_1_c1 : v1.cell? ⟨w.heap.size, 1, none⟩ = some (.int .i64 d) := (Ba_1.cell 1).trans rfl
    have a_1_f1 := Ba_1.frozen 1
    go_wp2_with fail
    refine (H3.out _).mono ?_; rintro e v2 ⟨rfl, hb2⟩
    have st2 := bl_step (Below.refl _ _) hb2
    have bl2 := bl_step bl1 st2
    clear a_1_z a_1_c0 a_1_f0 a_1_c1 a_1_f1
    have Ba_2 := Ba_1.below st2
    have a_2_z : w.heap.size < v2.heap.size := Ba_2.lt
    have a_2_c0 : v2.cell? ⟨w.heap.size, 0, none⟩ = some (.int .i64 n) := (Ba_2.cell 0).trans rfl
    have a_2_f0 := Ba_2.frozen 0
    have a_2_c1 : v2.cell? ⟨w.heap.size, 1, none⟩ = some (.int .i64 d) := (Ba_2.cell 1).trans rfl
    have a_2_f1 := Ba_2.frozen 1
    go_wp2
    go_ret
    exact ⟨rfl, bl2⟩
set_option maxHeartbeats 800000 in
theorem rceil_any (n d : Int) (w : World) (hn : InI n) (hd : InI d) :
    Calls Tryd.prog 26 #[.agg #[.int .i64 n, .int .i64 d]] w fun e w' => e = .returned (.int .i64 (wholeR n d true)) ∧ Below w.heap.size w w' := by
  have H1 := Lib.hid (fun w => good_any n d w hn hd)
  have H2 := fun (hp : goodB n d = true) => Lib.hid (fun w => Ceil_any n d w hn hd (by unfold goodB at hp; simp at hp; omega))
  unfold wholeR
  generalize goodB n d = x at H1 H2 ⊢
  cases x
  · clear H2
    go_enter Tryd.func26, Tryd.ntmps26
    go_wp2_with fail
    refine (H1.out _).mono ?_; rintro e v1 ⟨rfl, hb1⟩
    have st1 := bl_step (bl_alloc (Below.refl _ _) _) hb1
    have bl1 := st1
    have Ba_1 : Blk v1 (w.heap.size) 23 #[.int .i64 n, .int .i64 d] := (Blk.new _ _ _).below hb1
    have a_1_z : w.heap.size < v1.heap.size := Ba_1.lt
    have a_1_c0 : v1.cell? ⟨w.heap.size, 0, none⟩ = some (.int .i64 n) := (Ba_1.cell 0).trans rfl
    have a_1_f0 := Ba_1.frozen 0
    have a_1_c1 : v1.cell? ⟨w.heap.size, 1, none⟩ = some (.int .i64 d) := (Ba_1.cell 1).trans rfl
    have a_1_f1 := Ba_1.frozen 1
    go_wp2
    go_ret
    exact ⟨rfl, bl1⟩
  · have H3 := H2 rfl
    clear H2
    go_enter Tryd.func26, Tryd.ntmps26
    go_wp2_with fail
    refine (H1.out _).mono ?_; rintro e v1 ⟨rfl, hb1⟩
    have st1 := bl_step (bl_alloc (Below.refl _ _) _) hb1
    have bl1 := st1
    have Ba_1 : Blk v1 (w.heap.size) 23 #[.int .i64 n, .int .i64 d] := (Blk.new _ _ _).below hb1
    have a_1_z : w.heap.size < v1.heap.size := Ba_1.lt
    have a_1_c0 : v1.cell? ⟨w.heap.size, 0, none⟩ = some (.int .i64 n) := (Ba_1.cell 0).trans rfl
    have a_1_f0 := Ba_1.frozen 0
    have a_1_c1 : v1.cell? ⟨w.heap.size, 1, none⟩ = some (.int .i64 d) := (Ba_1.cell 1).trans rfl
    have a_1_f1 := Ba_1.frozen 1
    go_wp2_with fail
    refine (H3.out _).mono ?_; rintro e v2 ⟨rfl, hb2⟩
    have st2 := bl_step (Below.refl _ _) hb2
    have bl2 := bl_step bl1 st2
    clear a_1_z a_1_c0 a_1_f0 a_1_c1 a_1_f1
    have Ba_2 := Ba_1.below st2
    have a_2_z : w.heap.size < v2.heap.size := Ba_2.lt
    have a_2_c0 : v2.cell? ⟨w.heap.size, 0, none⟩ = some (.int .i64 n) := (Ba_2.cell 0).trans rfl
    have a_2_f0 := Ba_2.frozen 0
    have a_2_c1 : v2.cell? ⟨w.heap.size, 1, none⟩ = some (.int .i64 d) := (Ba_2.cell 1).trans rfl
    have a_2_f1 := Ba_2.frozen 1
    go_wp2
    go_ret
    exact ⟨rfl, bl2⟩
set_option maxHeartbeats 800000 in
theorem bwhole_any (n d : Int) (w : World) (hn : InI n) (hd : InI d) (up : Bool) :
    Calls Tryd.prog 25 #[.int .i64 n, .int .i64 d, .bool up] w fun e w' => e = .returned (.int .i64 (wholeR n d up)) ∧ Below w.heap.size w w' := by
  have H1 := Lib.hid (fun w => bgood_any n d w hn hd)
  have H2 := fun (hp : goodB n d = true) => Lib.hid (fun w => BFloor_any n d up w hn hd (by unfold goodB at hp; simp at hp; omega))
  unfold wholeR
  generalize goodB n d = x at H1 H2 ⊢
  cases x
  · clear H2
    go_enter Tryd.func25, Tryd.ntmps25
    go_wp2_with fail
    refine (H1.out _).mono ?_; rintro e v1 ⟨rfl, hb1⟩
    have st1 := bl_step (Below.refl _ _) hb1
    have bl1 := st1
    go_wp2
    go_ret
    exact ⟨rfl, bl1⟩
  · have H3 := H2 rfl
    clear H2
    go_enter Tryd.func25, Tryd.ntmps25
    go_wp2_with fail
    refine (H1.out _).mono ?_; rintro e v1 ⟨rfl, hb1⟩
    have st1 := bl_step (Below.refl _ _) hb1
    have bl1 := st1
    go_wp2_with fail
    refine (H3.out _).mono ?_; rintro e v2 ⟨rfl, hb2⟩
    have st2 := bl_step (Below.refl _ _) hb2
    have bl2 := bl_step bl1 st2
    go_wp2
    go_ret
    exact ⟨rfl, bl2⟩
end Go.Proofs.YtkdklmkcanjjfaaDoor
