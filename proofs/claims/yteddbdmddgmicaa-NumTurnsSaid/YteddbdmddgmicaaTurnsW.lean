/- The walk of NumTurns: a product, a cross turned round; a common divisor divides both. -/
import Derived.Test.YteddbdmddgmicaaRefG
namespace Go.Proofs.Yteddbdmddgmicaa
open Go.RowKit
set_option linter.unusedVariables false
set_option linter.unusedSimpArgs false

set_option maxHeartbeats 6400000 in
set_option maxRecDepth 100000 in
theorem Turns_pos (a0 a1 b0 b1 p d k : Int) (t : Bool) (w : World)
    (HM1 : Hid (∀ w, Calls Try.prog 21 #[.int .i64 a0, .int .i64 a1] w fun e w' => e = .returned (.tuple #[.int .i64 p, .bool t]) ∧ Below w.heap.size w w')) (HM2 : Hid (∀ w, Calls Try.prog 21 #[.int .i64 a1, .int .i64 a0] w fun e w' => e = .returned (.tuple #[.int .i64 p, .bool t]) ∧ Below w.heap.size w w'))
    (HG : Hid (∀ w, Calls Try.prog 25 #[.int .i64 a0, .int .i64 a1] w fun e w' => e = .returned (.tuple #[.int .i64 d, .bool true]) ∧ Below w.heap.size w w'))
    (HC1 : Hid (∀ w, Calls Try.prog 11 #[.int .i64 a0, .int .i64 a1, .int .i64 b0, .int .i64 b1] w fun e w' => e = .returned (.int .i64 k) ∧ Below w.heap.size w w')) (HC2 : Hid (∀ w, Calls Try.prog 11 #[.int .i64 b0, .int .i64 b1, .int .i64 a0, .int .i64 a1] w fun e w' => e = .returned (.int .i64 (-k)) ∧ Below w.heap.size w w'))
    (hk : IntKind.i64.wrap k = k) (hd : 0 < d) (hd2 : d ≤ 9223372036854775807) (h0 : Int.tmod a0 d = 0) (h1 : Int.tmod a1 d = 0) :
    Calls Try.prog 7 #[.agg #[.int .i64 a0, .int .i64 a1], .agg #[.int .i64 b0, .int .i64 b1]] w fun e w' => e = .returned (.bool true) ∧ Below w.heap.size w w' := by
  go_enter Try.func7, Try.ntmps7
  go_wp2_with fail
  have Ba : Blk ((w.alloc (Obj.cells #[.int .i64 a0, .int .i64 a1] 22)).alloc (Obj.cells #[.int .i64 b0, .int .i64 b1] 22)) (w.heap.size) 22 #[.int .i64 a0, .int .i64 a1] := ((Blk.new' (by simp) _ _).alloc _)
  have Bb : Blk ((w.alloc (Obj.cells #[.int .i64 a0, .int .i64 a1] 22)).alloc (Obj.cells #[.int .i64 b0, .int .i64 b1] 22)) (w.heap.size + 1) 22 #[.int .i64 b0, .int .i64 b1] := (Blk.new' (by simp) _ _)
  have bl0 : Below w.heap.size w ((w.alloc (Obj.cells #[.int .i64 a0, .int .i64 a1] 22)).alloc (Obj.cells #[.int .i64 b0, .int .i64 b1] 22)) := bl_alloc (bl_alloc (Below.refl _ _) _) _
  generalize (w.alloc (Obj.cells #[.int .i64 a0, .int .i64 a1] 22)).alloc (Obj.cells #[.int .i64 b0, .int .i64 b1] 22) = W0 at Ba Bb bl0 ⊢
  have a_0_z : w.heap.size < W0.heap.size := Ba.lt
  have a_0_c0 : W0.cell? ⟨w.heap.size, 0, none⟩ = some (.int .i64 a0) := (Ba.cell 0).trans rfl
  have a_0_f0 := Ba.frozen 0
  have a_0_c1 : W0.cell? ⟨w.heap.size, 1, none⟩ = some (.int .i64 a1) := (Ba.cell 1).trans rfl
  have a_0_f1 := Ba.frozen 1
  have b_0_z : w.heap.size + 1 < W0.heap.size := Bb.lt
  have b_0_c0 : W0.cell? ⟨w.heap.size + 1, 0, none⟩ = some (.int .i64 b0) := (Bb.cell 0).trans rfl
  have b_0_f0 := Bb.frozen 0
  have b_0_c1 : W0.cell? ⟨w.heap.size + 1, 1, none⟩ = some (.int .i64 b1) := (Bb.cell 1).trans rfl
  have b_0_f1 := Bb.frozen 1
  go_wp2_with fail
  refine (HM1.out _).mono ?_; rintro e u1 ⟨rfl, hb1⟩
  have st1 := bl_step (Below.refl _ _) hb1
  have bl1 := bl_step bl0 st1
  clear a_0_z a_0_c0 a_0_f0 a_0_c1 a_0_f1
  have Ba_1 := Ba.below st1
  clear b_0_z b_0_c0 b_0_f0 b_0_c1 b_0_f1
  have Bb_1 := Bb.below st1
  have a_1_z : w.heap.size < u1.heap.size := Ba_1.lt
  have a_1_c0 : u1.cell? ⟨w.heap.size, 0, none⟩ = some (.int .i64 a0) := (Ba_1.cell 0).trans rfl
  have a_1_f0 := Ba_1.frozen 0
  have a_1_c1 : u1.cell? ⟨w.heap.size, 1, none⟩ = some (.int .i64 a1) := (Ba_1.cell 1).trans rfl
  have a_1_f1 := Ba_1.frozen 1
  have b_1_z : w.heap.size + 1 < u1.heap.size := Bb_1.lt
  have b_1_c0 : u1.cell? ⟨w.heap.size + 1, 0, none⟩ = some (.int .i64 b0) := (Bb_1.cell 0).trans rfl
  have b_1_f0 := Bb_1.frozen 0
  have b_1_c1 : u1.cell? ⟨w.heap.size + 1, 1, none⟩ = some (.int .i64 b1) := (Bb_1.cell 1).trans rfl
  have b_1_f1 := Bb_1.frozen 1
  go_wp2_with fail
  refine (HM2.out _).mono ?_; rintro e u2 ⟨rfl, hb2⟩
  have st2 := bl_step (Below.refl _ _) hb2
  have bl2 := bl_step bl1 st2
  clear a_1_z a_1_c0 a_1_f0 a_1_c1 a_1_f1
  have Ba_2 := Ba_1.below st2
  clear b_1_z b_1_c0 b_1_f0 b_1_c1 b_1_f1
  have Bb_2 := Bb_1.below st2
  have a_2_z : w.heap.size < u2.heap.size := Ba_2.lt
  have a_2_c0 : u2.cell? ⟨w.heap.size, 0, none⟩ = some (.int .i64 a0) := (Ba_2.cell 0).trans rfl
  have a_2_f0 := Ba_2.frozen 0
  have a_2_c1 : u2.cell? ⟨w.heap.size, 1, none⟩ = some (.int .i64 a1) := (Ba_2.cell 1).trans rfl
  have a_2_f1 := Ba_2.frozen 1
  have b_2_z : w.heap.size + 1 < u2.heap.size := Bb_2.lt
  have b_2_c0 : u2.cell? ⟨w.heap.size + 1, 0, none⟩ = some (.int .i64 b0) := (Bb_2.cell 0).trans rfl
  have b_2_f0 := Bb_2.frozen 0
  have b_2_c1 : u2.cell? ⟨w.heap.size + 1, 1, none⟩ = some (.int .i64 b1) := (Bb_2.cell 1).trans rfl
  have b_2_f1 := Bb_2.frozen 1
  go_wp2_with fail
  refine (HG.out _).mono ?_; rintro e u3 ⟨rfl, hb3⟩
  have st3 := bl_step (Below.refl _ _) hb3
  have bl3 := bl_step bl2 st3
  clear a_2_z a_2_c0 a_2_f0 a_2_c1 a_2_f1
  have Ba_3 := Ba_2.below st3
  clear b_2_z b_2_c0 b_2_f0 b_2_c1 b_2_f1
  have Bb_3 := Bb_2.below st3
  have a_3_z : w.heap.size < u3.heap.size := Ba_3.lt
  have a_3_c0 : u3.cell? ⟨w.heap.size, 0, none⟩ = some (.int .i64 a0) := (Ba_3.cell 0).trans rfl
  have a_3_f0 := Ba_3.frozen 0
  have a_3_c1 : u3.cell? ⟨w.heap.size, 1, none⟩ = some (.int .i64 a1) := (Ba_3.cell 1).trans rfl
  have a_3_f1 := Ba_3.frozen 1
  have b_3_z : w.heap.size + 1 < u3.heap.size := Bb_3.lt
  have b_3_c0 : u3.cell? ⟨w.heap.size + 1, 0, none⟩ = some (.int .i64 b0) := (Bb_3.cell 0).trans rfl
  have b_3_f0 := Bb_3.frozen 0
  have b_3_c1 : u3.cell? ⟨w.heap.size + 1, 1, none⟩ = some (.int .i64 b1) := (Bb_3.cell 1).trans rfl
  have b_3_f1 := Bb_3.frozen 1
  go_wp2_with fail
  go_region_held3 (fun w' => w'.cell? ⟨w.heap.size, 0, none⟩ = some (.int .i64 a0) ∧ w'.cell? ⟨w.heap.size, 1, none⟩ = some (.int .i64 a1) ∧ w'.cell? ⟨w.heap.size + 1, 0, none⟩ = some (.int .i64 b0) ∧ w'.cell? ⟨w.heap.size + 1, 1, none⟩ = some (.int .i64 b1)) (go_keep) (first | (go_at_call 11; with_reducible refine (HC1.out _).mono ?_; rintro e u4 ⟨rfl, hb4⟩; have st4 := bl_step (bl_drew (Below.refl _ _)) hb4; have bl4 := bl_step bl3 st4; have Ba_4 := Ba_3.below st4; clear a_3_z a_3_c0 a_3_f0 a_3_c1 a_3_f1; have a_4_z : w.heap.size < u4.heap.size := Ba_4.lt; have a_4_c0 : u4.cell? ⟨w.heap.size, 0, none⟩ = some (.int .i64 a0) := (Ba_4.cell 0).trans rfl; have a_4_f0 := Ba_4.frozen 0; have a_4_c1 : u4.cell? ⟨w.heap.size, 1, none⟩ = some (.int .i64 a1) := (Ba_4.cell 1).trans rfl; have a_4_f1 := Ba_4.frozen 1; have Bb_4 := Bb_3.below st4; clear b_3_z b_3_c0 b_3_f0 b_3_c1 b_3_f1; have b_4_z : w.heap.size + 1 < u4.heap.size := Bb_4.lt; have b_4_c0 : u4.cell? ⟨w.heap.size + 1, 0, none⟩ = some (.int .i64 b0) := (Bb_4.cell 0).trans rfl; have b_4_f0 := Bb_4.frozen 0; have b_4_c1 : u4.cell? ⟨w.heap.size + 1, 1, none⟩ = some (.int .i64 b1) := (Bb_4.cell 1).trans rfl; have b_4_f1 := Bb_4.frozen 1) | (go_at_call 11; with_reducible refine (HC2.out _).mono ?_; rintro e u5 ⟨rfl, hb5⟩; have st5 := bl_step (Below.refl _ _) hb5; have bl5 := bl_step bl4 st5; have Ba_5 := Ba_4.below st5; clear a_4_z a_4_c0 a_4_f0 a_4_c1 a_4_f1; have a_5_z : w.heap.size < u5.heap.size := Ba_5.lt; have a_5_c0 : u5.cell? ⟨w.heap.size, 0, none⟩ = some (.int .i64 a0) := (Ba_5.cell 0).trans rfl; have a_5_f0 := Ba_5.frozen 0; have a_5_c1 : u5.cell? ⟨w.heap.size, 1, none⟩ = some (.int .i64 a1) := (Ba_5.cell 1).trans rfl; have a_5_f1 := Ba_5.frozen 1; have Bb_5 := Bb_4.below st5; clear b_4_z b_4_c0 b_4_f0 b_4_c1 b_4_f1; have b_5_z : w.heap.size + 1 < u5.heap.size := Bb_5.lt; have b_5_c0 : u5.cell? ⟨w.heap.size + 1, 0, none⟩ = some (.int .i64 b0) := (Bb_5.cell 0).trans rfl; have b_5_f0 := Bb_5.frozen 0; have b_5_c1 : u5.cell? ⟨w.heap.size + 1, 1, none⟩ = some (.int .i64 b1) := (Bb_5.cell 1).trans rfl; have b_5_f1 := Bb_5.frozen 1))
  go_wp2_with fail
  refine (wakes_any _).mono ?_; rintro e u6 ⟨rfl, hb6⟩
  have st6 := bl_step (Below.refl _ _) hb6
  have bl6 := bl_step bl5 st6
  clear a_5_z a_5_c0 a_5_f0 a_5_c1 a_5_f1
  have Ba_6 := Ba_5.below st6
  clear b_5_z b_5_c0 b_5_f0 b_5_c1 b_5_f1
  have Bb_6 := Bb_5.below st6
  have a_6_z : w.heap.size < u6.heap.size := Ba_6.lt
  have a_6_c0 : u6.cell? ⟨w.heap.size, 0, none⟩ = some (.int .i64 a0) := (Ba_6.cell 0).trans rfl
  have a_6_f0 := Ba_6.frozen 0
  have a_6_c1 : u6.cell? ⟨w.heap.size, 1, none⟩ = some (.int .i64 a1) := (Ba_6.cell 1).trans rfl
  have a_6_f1 := Ba_6.frozen 1
  have b_6_z : w.heap.size + 1 < u6.heap.size := Bb_6.lt
  have b_6_c0 : u6.cell? ⟨w.heap.size + 1, 0, none⟩ = some (.int .i64 b0) := (Bb_6.cell 0).trans rfl
  have b_6_f0 := Bb_6.frozen 0
  have b_6_c1 : u6.cell? ⟨w.heap.size + 1, 1, none⟩ = some (.int .i64 b1) := (Bb_6.cell 1).trans rfl
  have b_6_f1 := Bb_6.frozen 1
  go_wp2
  go_ret
  exact ⟨rfl, bl6⟩
set_option maxHeartbeats 6400000 in
set_option maxRecDepth 100000 in
theorem Turns_none_a (a1 b0 b1 p d k : Int) (t : Bool) (w : World)
    (HM1 : Hid (∀ w, Calls Try.prog 21 #[.int .i64 (-9223372036854775808), .int .i64 a1] w fun e w' => e = .returned (.tuple #[.int .i64 p, .bool t]) ∧ Below w.heap.size w w')) (HM2 : Hid (∀ w, Calls Try.prog 21 #[.int .i64 a1, .int .i64 (-9223372036854775808)] w fun e w' => e = .returned (.tuple #[.int .i64 p, .bool t]) ∧ Below w.heap.size w w'))
    (HG : Hid (∀ w, Calls Try.prog 25 #[.int .i64 (-9223372036854775808), .int .i64 a1] w fun e w' => e = .returned (.tuple #[.int .i64 d, .bool false]) ∧ Below w.heap.size w w'))
    (HC1 : Hid (∀ w, Calls Try.prog 11 #[.int .i64 (-9223372036854775808), .int .i64 a1, .int .i64 b0, .int .i64 b1] w fun e w' => e = .returned (.int .i64 k) ∧ Below w.heap.size w w')) (HC2 : Hid (∀ w, Calls Try.prog 11 #[.int .i64 b0, .int .i64 b1, .int .i64 (-9223372036854775808), .int .i64 a1] w fun e w' => e = .returned (.int .i64 (-k)) ∧ Below w.heap.size w w'))
    (hk : IntKind.i64.wrap k = k)  :
    Calls Try.prog 7 #[.agg #[.int .i64 (-9223372036854775808), .int .i64 a1], .agg #[.int .i64 b0, .int .i64 b1]] w fun e w' => e = .returned (.bool true) ∧ Below w.heap.size w w' := by
  go_enter Try.func7, Try.ntmps7
  go_wp2_with fail
  have Ba : Blk ((w.alloc (Obj.cells #[.int .i64 (-9223372036854775808), .int .i64 a1] 22)).alloc (Obj.cells #[.int .i64 b0, .int .i64 b1] 22)) (w.heap.size) 22 #[.int .i64 (-9223372036854775808), .int .i64 a1] := ((Blk.new' (by simp) _ _).alloc _)
  have Bb : Blk ((w.alloc (Obj.cells #[.int .i64 (-9223372036854775808), .int .i64 a1] 22)).alloc (Obj.cells #[.int .i64 b0, .int .i64 b1] 22)) (w.heap.size + 1) 22 #[.int .i64 b0, .int .i64 b1] := (Blk.new' (by simp) _ _)
  have bl0 : Below w.heap.size w ((w.alloc (Obj.cells #[.int .i64 (-9223372036854775808), .int .i64 a1] 22)).alloc (Obj.cells #[.int .i64 b0, .int .i64 b1] 22)) := bl_alloc (bl_alloc (Below.refl _ _) _) _
  generalize (w.alloc (Obj.cells #[.int .i64 (-9223372036854775808), .int .i64 a1] 22)).alloc (Obj.cells #[.int .i64 b0, .int .i64 b1] 22) = W0 at Ba Bb bl0 ⊢
  have a_0_z : w.heap.size < W0.heap.size := Ba.lt
  have a_0_c0 : W0.cell? ⟨w.heap.size, 0, none⟩ = some (.int .i64 (-9223372036854775808)) := (Ba.cell 0).trans rfl
  have a_0_f0 := Ba.frozen 0
  have a_0_c1 : W0.cell? ⟨w.heap.size, 1, none⟩ = some (.int .i64 a1) := (Ba.cell 1).trans rfl
  have a_0_f1 := Ba.frozen 1
  have b_0_z : w.heap.size + 1 < W0.heap.size := Bb.lt
  have b_0_c0 : W0.cell? ⟨w.heap.size + 1, 0, none⟩ = some (.int .i64 b0) := (Bb.cell 0).trans rfl
  have b_0_f0 := Bb.frozen 0
  have b_0_c1 : W0.cell? ⟨w.heap.size + 1, 1, none⟩ = some (.int .i64 b1) := (Bb.cell 1).trans rfl
  have b_0_f1 := Bb.frozen 1
  go_wp2_with fail
  refine (HM1.out _).mono ?_; rintro e u1 ⟨rfl, hb1⟩
  have st1 := bl_step (Below.refl _ _) hb1
  have bl1 := bl_step bl0 st1
  clear a_0_z a_0_c0 a_0_f0 a_0_c1 a_0_f1
  have Ba_1 := Ba.below st1
  clear b_0_z b_0_c0 b_0_f0 b_0_c1 b_0_f1
  have Bb_1 := Bb.below st1
  have a_1_z : w.heap.size < u1.heap.size := Ba_1.lt
  have a_1_c0 : u1.cell? ⟨w.heap.size, 0, none⟩ = some (.int .i64 (-9223372036854775808)) := (Ba_1.cell 0).trans rfl
  have a_1_f0 := Ba_1.frozen 0
  have a_1_c1 : u1.cell? ⟨w.heap.size, 1, none⟩ = some (.int .i64 a1) := (Ba_1.cell 1).trans rfl
  have a_1_f1 := Ba_1.frozen 1
  have b_1_z : w.heap.size + 1 < u1.heap.size := Bb_1.lt
  have b_1_c0 : u1.cell? ⟨w.heap.size + 1, 0, none⟩ = some (.int .i64 b0) := (Bb_1.cell 0).trans rfl
  have b_1_f0 := Bb_1.frozen 0
  have b_1_c1 : u1.cell? ⟨w.heap.size + 1, 1, none⟩ = some (.int .i64 b1) := (Bb_1.cell 1).trans rfl
  have b_1_f1 := Bb_1.frozen 1
  go_wp2_with fail
  refine (HM2.out _).mono ?_; rintro e u2 ⟨rfl, hb2⟩
  have st2 := bl_step (Below.refl _ _) hb2
  have bl2 := bl_step bl1 st2
  clear a_1_z a_1_c0 a_1_f0 a_1_c1 a_1_f1
  have Ba_2 := Ba_1.below st2
  clear b_1_z b_1_c0 b_1_f0 b_1_c1 b_1_f1
  have Bb_2 := Bb_1.below st2
  have a_2_z : w.heap.size < u2.heap.size := Ba_2.lt
  have a_2_c0 : u2.cell? ⟨w.heap.size, 0, none⟩ = some (.int .i64 (-9223372036854775808)) := (Ba_2.cell 0).trans rfl
  have a_2_f0 := Ba_2.frozen 0
  have a_2_c1 : u2.cell? ⟨w.heap.size, 1, none⟩ = some (.int .i64 a1) := (Ba_2.cell 1).trans rfl
  have a_2_f1 := Ba_2.frozen 1
  have b_2_z : w.heap.size + 1 < u2.heap.size := Bb_2.lt
  have b_2_c0 : u2.cell? ⟨w.heap.size + 1, 0, none⟩ = some (.int .i64 b0) := (Bb_2.cell 0).trans rfl
  have b_2_f0 := Bb_2.frozen 0
  have b_2_c1 : u2.cell? ⟨w.heap.size + 1, 1, none⟩ = some (.int .i64 b1) := (Bb_2.cell 1).trans rfl
  have b_2_f1 := Bb_2.frozen 1
  go_wp2_with fail
  refine (HG.out _).mono ?_; rintro e u3 ⟨rfl, hb3⟩
  have st3 := bl_step (Below.refl _ _) hb3
  have bl3 := bl_step bl2 st3
  clear a_2_z a_2_c0 a_2_f0 a_2_c1 a_2_f1
  have Ba_3 := Ba_2.below st3
  clear b_2_z b_2_c0 b_2_f0 b_2_c1 b_2_f1
  have Bb_3 := Bb_2.below st3
  have a_3_z : w.heap.size < u3.heap.size := Ba_3.lt
  have a_3_c0 : u3.cell? ⟨w.heap.size, 0, none⟩ = some (.int .i64 (-9223372036854775808)) := (Ba_3.cell 0).trans rfl
  have a_3_f0 := Ba_3.frozen 0
  have a_3_c1 : u3.cell? ⟨w.heap.size, 1, none⟩ = some (.int .i64 a1) := (Ba_3.cell 1).trans rfl
  have a_3_f1 := Ba_3.frozen 1
  have b_3_z : w.heap.size + 1 < u3.heap.size := Bb_3.lt
  have b_3_c0 : u3.cell? ⟨w.heap.size + 1, 0, none⟩ = some (.int .i64 b0) := (Bb_3.cell 0).trans rfl
  have b_3_f0 := Bb_3.frozen 0
  have b_3_c1 : u3.cell? ⟨w.heap.size + 1, 1, none⟩ = some (.int .i64 b1) := (Bb_3.cell 1).trans rfl
  have b_3_f1 := Bb_3.frozen 1
  go_wp2_with fail
  go_region_held3 (fun w' => w'.cell? ⟨w.heap.size, 0, none⟩ = some (.int .i64 (-9223372036854775808)) ∧ w'.cell? ⟨w.heap.size, 1, none⟩ = some (.int .i64 a1) ∧ w'.cell? ⟨w.heap.size + 1, 0, none⟩ = some (.int .i64 b0) ∧ w'.cell? ⟨w.heap.size + 1, 1, none⟩ = some (.int .i64 b1)) (go_keep) (first | (go_at_call 11; with_reducible refine (HC1.out _).mono ?_; rintro e u4 ⟨rfl, hb4⟩; have st4 := bl_step (bl_drew (Below.refl _ _)) hb4; have bl4 := bl_step bl3 st4; have Ba_4 := Ba_3.below st4; clear a_3_z a_3_c0 a_3_f0 a_3_c1 a_3_f1; have a_4_z : w.heap.size < u4.heap.size := Ba_4.lt; have a_4_c0 : u4.cell? ⟨w.heap.size, 0, none⟩ = some (.int .i64 (-9223372036854775808)) := (Ba_4.cell 0).trans rfl; have a_4_f0 := Ba_4.frozen 0; have a_4_c1 : u4.cell? ⟨w.heap.size, 1, none⟩ = some (.int .i64 a1) := (Ba_4.cell 1).trans rfl; have a_4_f1 := Ba_4.frozen 1; have Bb_4 := Bb_3.below st4; clear b_3_z b_3_c0 b_3_f0 b_3_c1 b_3_f1; have b_4_z : w.heap.size + 1 < u4.heap.size := Bb_4.lt; have b_4_c0 : u4.cell? ⟨w.heap.size + 1, 0, none⟩ = some (.int .i64 b0) := (Bb_4.cell 0).trans rfl; have b_4_f0 := Bb_4.frozen 0; have b_4_c1 : u4.cell? ⟨w.heap.size + 1, 1, none⟩ = some (.int .i64 b1) := (Bb_4.cell 1).trans rfl; have b_4_f1 := Bb_4.frozen 1) | (go_at_call 11; with_reducible refine (HC2.out _).mono ?_; rintro e u5 ⟨rfl, hb5⟩; have st5 := bl_step (Below.refl _ _) hb5; have bl5 := bl_step bl4 st5; have Ba_5 := Ba_4.below st5; clear a_4_z a_4_c0 a_4_f0 a_4_c1 a_4_f1; have a_5_z : w.heap.size < u5.heap.size := Ba_5.lt; have a_5_c0 : u5.cell? ⟨w.heap.size, 0, none⟩ = some (.int .i64 (-9223372036854775808)) := (Ba_5.cell 0).trans rfl; have a_5_f0 := Ba_5.frozen 0; have a_5_c1 : u5.cell? ⟨w.heap.size, 1, none⟩ = some (.int .i64 a1) := (Ba_5.cell 1).trans rfl; have a_5_f1 := Ba_5.frozen 1; have Bb_5 := Bb_4.below st5; clear b_4_z b_4_c0 b_4_f0 b_4_c1 b_4_f1; have b_5_z : w.heap.size + 1 < u5.heap.size := Bb_5.lt; have b_5_c0 : u5.cell? ⟨w.heap.size + 1, 0, none⟩ = some (.int .i64 b0) := (Bb_5.cell 0).trans rfl; have b_5_f0 := Bb_5.frozen 0; have b_5_c1 : u5.cell? ⟨w.heap.size + 1, 1, none⟩ = some (.int .i64 b1) := (Bb_5.cell 1).trans rfl; have b_5_f1 := Bb_5.frozen 1))
  go_wp2_with fail
  refine (wakes_any _).mono ?_; rintro e u6 ⟨rfl, hb6⟩
  have st6 := bl_step (Below.refl _ _) hb6
  have bl6 := bl_step bl5 st6
  clear a_5_z a_5_c0 a_5_f0 a_5_c1 a_5_f1
  have Ba_6 := Ba_5.below st6
  clear b_5_z b_5_c0 b_5_f0 b_5_c1 b_5_f1
  have Bb_6 := Bb_5.below st6
  have a_6_z : w.heap.size < u6.heap.size := Ba_6.lt
  have a_6_c0 : u6.cell? ⟨w.heap.size, 0, none⟩ = some (.int .i64 (-9223372036854775808)) := (Ba_6.cell 0).trans rfl
  have a_6_f0 := Ba_6.frozen 0
  have a_6_c1 : u6.cell? ⟨w.heap.size, 1, none⟩ = some (.int .i64 a1) := (Ba_6.cell 1).trans rfl
  have a_6_f1 := Ba_6.frozen 1
  have b_6_z : w.heap.size + 1 < u6.heap.size := Bb_6.lt
  have b_6_c0 : u6.cell? ⟨w.heap.size + 1, 0, none⟩ = some (.int .i64 b0) := (Bb_6.cell 0).trans rfl
  have b_6_f0 := Bb_6.frozen 0
  have b_6_c1 : u6.cell? ⟨w.heap.size + 1, 1, none⟩ = some (.int .i64 b1) := (Bb_6.cell 1).trans rfl
  have b_6_f1 := Bb_6.frozen 1
  go_wp2
  go_ret
  exact ⟨rfl, bl6⟩
set_option maxHeartbeats 6400000 in
set_option maxRecDepth 100000 in
theorem Turns_none_b (a0 b0 b1 p d k : Int) (t : Bool) (w : World)
    (HM1 : Hid (∀ w, Calls Try.prog 21 #[.int .i64 a0, .int .i64 (-9223372036854775808)] w fun e w' => e = .returned (.tuple #[.int .i64 p, .bool t]) ∧ Below w.heap.size w w')) (HM2 : Hid (∀ w, Calls Try.prog 21 #[.int .i64 (-9223372036854775808), .int .i64 a0] w fun e w' => e = .returned (.tuple #[.int .i64 p, .bool t]) ∧ Below w.heap.size w w'))
    (HG : Hid (∀ w, Calls Try.prog 25 #[.int .i64 a0, .int .i64 (-9223372036854775808)] w fun e w' => e = .returned (.tuple #[.int .i64 d, .bool false]) ∧ Below w.heap.size w w'))
    (HC1 : Hid (∀ w, Calls Try.prog 11 #[.int .i64 a0, .int .i64 (-9223372036854775808), .int .i64 b0, .int .i64 b1] w fun e w' => e = .returned (.int .i64 k) ∧ Below w.heap.size w w')) (HC2 : Hid (∀ w, Calls Try.prog 11 #[.int .i64 b0, .int .i64 b1, .int .i64 a0, .int .i64 (-9223372036854775808)] w fun e w' => e = .returned (.int .i64 (-k)) ∧ Below w.heap.size w w'))
    (hk : IntKind.i64.wrap k = k) (h0 : (a0 == -9223372036854775808) = false) :
    Calls Try.prog 7 #[.agg #[.int .i64 a0, .int .i64 (-9223372036854775808)], .agg #[.int .i64 b0, .int .i64 b1]] w fun e w' => e = .returned (.bool true) ∧ Below w.heap.size w w' := by
  go_enter Try.func7, Try.ntmps7
  go_wp2_with fail
  have Ba : Blk ((w.alloc (Obj.cells #[.int .i64 a0, .int .i64 (-9223372036854775808)] 22)).alloc (Obj.cells #[.int .i64 b0, .int .i64 b1] 22)) (w.heap.size) 22 #[.int .i64 a0, .int .i64 (-9223372036854775808)] := ((Blk.new' (by simp) _ _).alloc _)
  have Bb : Blk ((w.alloc (Obj.cells #[.int .i64 a0, .int .i64 (-9223372036854775808)] 22)).alloc (Obj.cells #[.int .i64 b0, .int .i64 b1] 22)) (w.heap.size + 1) 22 #[.int .i64 b0, .int .i64 b1] := (Blk.new' (by simp) _ _)
  have bl0 : Below w.heap.size w ((w.alloc (Obj.cells #[.int .i64 a0, .int .i64 (-9223372036854775808)] 22)).alloc (Obj.cells #[.int .i64 b0, .int .i64 b1] 22)) := bl_alloc (bl_alloc (Below.refl _ _) _) _
  generalize (w.alloc (Obj.cells #[.int .i64 a0, .int .i64 (-9223372036854775808)] 22)).alloc (Obj.cells #[.int .i64 b0, .int .i64 b1] 22) = W0 at Ba Bb bl0 ⊢
  have a_0_z : w.heap.size < W0.heap.size := Ba.lt
  have a_0_c0 : W0.cell? ⟨w.heap.size, 0, none⟩ = some (.int .i64 a0) := (Ba.cell 0).trans rfl
  have a_0_f0 := Ba.frozen 0
  have a_0_c1 : W0.cell? ⟨w.heap.size, 1, none⟩ = some (.int .i64 (-9223372036854775808)) := (Ba.cell 1).trans rfl
  have a_0_f1 := Ba.frozen 1
  have b_0_z : w.heap.size + 1 < W0.heap.size := Bb.lt
  have b_0_c0 : W0.cell? ⟨w.heap.size + 1, 0, none⟩ = some (.int .i64 b0) := (Bb.cell 0).trans rfl
  have b_0_f0 := Bb.frozen 0
  have b_0_c1 : W0.cell? ⟨w.heap.size + 1, 1, none⟩ = some (.int .i64 b1) := (Bb.cell 1).trans rfl
  have b_0_f1 := Bb.frozen 1
  go_wp2_with fail
  refine (HM1.out _).mono ?_; rintro e u1 ⟨rfl, hb1⟩
  have st1 := bl_step (Below.refl _ _) hb1
  have bl1 := bl_step bl0 st1
  clear a_0_z a_0_c0 a_0_f0 a_0_c1 a_0_f1
  have Ba_1 := Ba.below st1
  clear b_0_z b_0_c0 b_0_f0 b_0_c1 b_0_f1
  have Bb_1 := Bb.below st1
  have a_1_z : w.heap.size < u1.heap.size := Ba_1.lt
  have a_1_c0 : u1.cell? ⟨w.heap.size, 0, none⟩ = some (.int .i64 a0) := (Ba_1.cell 0).trans rfl
  have a_1_f0 := Ba_1.frozen 0
  have a_1_c1 : u1.cell? ⟨w.heap.size, 1, none⟩ = some (.int .i64 (-9223372036854775808)) := (Ba_1.cell 1).trans rfl
  have a_1_f1 := Ba_1.frozen 1
  have b_1_z : w.heap.size + 1 < u1.heap.size := Bb_1.lt
  have b_1_c0 : u1.cell? ⟨w.heap.size + 1, 0, none⟩ = some (.int .i64 b0) := (Bb_1.cell 0).trans rfl
  have b_1_f0 := Bb_1.frozen 0
  have b_1_c1 : u1.cell? ⟨w.heap.size + 1, 1, none⟩ = some (.int .i64 b1) := (Bb_1.cell 1).trans rfl
  have b_1_f1 := Bb_1.frozen 1
  go_wp2_with fail
  refine (HM2.out _).mono ?_; rintro e u2 ⟨rfl, hb2⟩
  have st2 := bl_step (Below.refl _ _) hb2
  have bl2 := bl_step bl1 st2
  clear a_1_z a_1_c0 a_1_f0 a_1_c1 a_1_f1
  have Ba_2 := Ba_1.below st2
  clear b_1_z b_1_c0 b_1_f0 b_1_c1 b_1_f1
  have Bb_2 := Bb_1.below st2
  have a_2_z : w.heap.size < u2.heap.size := Ba_2.lt
  have a_2_c0 : u2.cell? ⟨w.heap.size, 0, none⟩ = some (.int .i64 a0) := (Ba_2.cell 0).trans rfl
  have a_2_f0 := Ba_2.frozen 0
  have a_2_c1 : u2.cell? ⟨w.heap.size, 1, none⟩ = some (.int .i64 (-9223372036854775808)) := (Ba_2.cell 1).trans rfl
  have a_2_f1 := Ba_2.frozen 1
  have b_2_z : w.heap.size + 1 < u2.heap.size := Bb_2.lt
  have b_2_c0 : u2.cell? ⟨w.heap.size + 1, 0, none⟩ = some (.int .i64 b0) := (Bb_2.cell 0).trans rfl
  have b_2_f0 := Bb_2.frozen 0
  have b_2_c1 : u2.cell? ⟨w.heap.size + 1, 1, none⟩ = some (.int .i64 b1) := (Bb_2.cell 1).trans rfl
  have b_2_f1 := Bb_2.frozen 1
  go_wp2_with fail
  refine (HG.out _).mono ?_; rintro e u3 ⟨rfl, hb3⟩
  have st3 := bl_step (Below.refl _ _) hb3
  have bl3 := bl_step bl2 st3
  clear a_2_z a_2_c0 a_2_f0 a_2_c1 a_2_f1
  have Ba_3 := Ba_2.below st3
  clear b_2_z b_2_c0 b_2_f0 b_2_c1 b_2_f1
  have Bb_3 := Bb_2.below st3
  have a_3_z : w.heap.size < u3.heap.size := Ba_3.lt
  have a_3_c0 : u3.cell? ⟨w.heap.size, 0, none⟩ = some (.int .i64 a0) := (Ba_3.cell 0).trans rfl
  have a_3_f0 := Ba_3.frozen 0
  have a_3_c1 : u3.cell? ⟨w.heap.size, 1, none⟩ = some (.int .i64 (-9223372036854775808)) := (Ba_3.cell 1).trans rfl
  have a_3_f1 := Ba_3.frozen 1
  have b_3_z : w.heap.size + 1 < u3.heap.size := Bb_3.lt
  have b_3_c0 : u3.cell? ⟨w.heap.size + 1, 0, none⟩ = some (.int .i64 b0) := (Bb_3.cell 0).trans rfl
  have b_3_f0 := Bb_3.frozen 0
  have b_3_c1 : u3.cell? ⟨w.heap.size + 1, 1, none⟩ = some (.int .i64 b1) := (Bb_3.cell 1).trans rfl
  have b_3_f1 := Bb_3.frozen 1
  go_wp2_with fail
  go_region_held3 (fun w' => w'.cell? ⟨w.heap.size, 0, none⟩ = some (.int .i64 a0) ∧ w'.cell? ⟨w.heap.size, 1, none⟩ = some (.int .i64 (-9223372036854775808)) ∧ w'.cell? ⟨w.heap.size + 1, 0, none⟩ = some (.int .i64 b0) ∧ w'.cell? ⟨w.heap.size + 1, 1, none⟩ = some (.int .i64 b1)) (go_keep) (first | (go_at_call 11; with_reducible refine (HC1.out _).mono ?_; rintro e u4 ⟨rfl, hb4⟩; have st4 := bl_step (bl_drew (Below.refl _ _)) hb4; have bl4 := bl_step bl3 st4; have Ba_4 := Ba_3.below st4; clear a_3_z a_3_c0 a_3_f0 a_3_c1 a_3_f1; have a_4_z : w.heap.size < u4.heap.size := Ba_4.lt; have a_4_c0 : u4.cell? ⟨w.heap.size, 0, none⟩ = some (.int .i64 a0) := (Ba_4.cell 0).trans rfl; have a_4_f0 := Ba_4.frozen 0; have a_4_c1 : u4.cell? ⟨w.heap.size, 1, none⟩ = some (.int .i64 (-9223372036854775808)) := (Ba_4.cell 1).trans rfl; have a_4_f1 := Ba_4.frozen 1; have Bb_4 := Bb_3.below st4; clear b_3_z b_3_c0 b_3_f0 b_3_c1 b_3_f1; have b_4_z : w.heap.size + 1 < u4.heap.size := Bb_4.lt; have b_4_c0 : u4.cell? ⟨w.heap.size + 1, 0, none⟩ = some (.int .i64 b0) := (Bb_4.cell 0).trans rfl; have b_4_f0 := Bb_4.frozen 0; have b_4_c1 : u4.cell? ⟨w.heap.size + 1, 1, none⟩ = some (.int .i64 b1) := (Bb_4.cell 1).trans rfl; have b_4_f1 := Bb_4.frozen 1) | (go_at_call 11; with_reducible refine (HC2.out _).mono ?_; rintro e u5 ⟨rfl, hb5⟩; have st5 := bl_step (Below.refl _ _) hb5; have bl5 := bl_step bl4 st5; have Ba_5 := Ba_4.below st5; clear a_4_z a_4_c0 a_4_f0 a_4_c1 a_4_f1; have a_5_z : w.heap.size < u5.heap.size := Ba_5.lt; have a_5_c0 : u5.cell? ⟨w.heap.size, 0, none⟩ = some (.int .i64 a0) := (Ba_5.cell 0).trans rfl; have a_5_f0 := Ba_5.frozen 0; have a_5_c1 : u5.cell? ⟨w.heap.size, 1, none⟩ = some (.int .i64 (-9223372036854775808)) := (Ba_5.cell 1).trans rfl; have a_5_f1 := Ba_5.frozen 1; have Bb_5 := Bb_4.below st5; clear b_4_z b_4_c0 b_4_f0 b_4_c1 b_4_f1; have b_5_z : w.heap.size + 1 < u5.heap.size := Bb_5.lt; have b_5_c0 : u5.cell? ⟨w.heap.size + 1, 0, none⟩ = some (.int .i64 b0) := (Bb_5.cell 0).trans rfl; have b_5_f0 := Bb_5.frozen 0; have b_5_c1 : u5.cell? ⟨w.heap.size + 1, 1, none⟩ = some (.int .i64 b1) := (Bb_5.cell 1).trans rfl; have b_5_f1 := Bb_5.frozen 1))
  go_wp2_with fail
  refine (wakes_any _).mono ?_; rintro e u6 ⟨rfl, hb6⟩
  have st6 := bl_step (Below.refl _ _) hb6
  have bl6 := bl_step bl5 st6
  clear a_5_z a_5_c0 a_5_f0 a_5_c1 a_5_f1
  have Ba_6 := Ba_5.below st6
  clear b_5_z b_5_c0 b_5_f0 b_5_c1 b_5_f1
  have Bb_6 := Bb_5.below st6
  have a_6_z : w.heap.size < u6.heap.size := Ba_6.lt
  have a_6_c0 : u6.cell? ⟨w.heap.size, 0, none⟩ = some (.int .i64 a0) := (Ba_6.cell 0).trans rfl
  have a_6_f0 := Ba_6.frozen 0
  have a_6_c1 : u6.cell? ⟨w.heap.size, 1, none⟩ = some (.int .i64 (-9223372036854775808)) := (Ba_6.cell 1).trans rfl
  have a_6_f1 := Ba_6.frozen 1
  have b_6_z : w.heap.size + 1 < u6.heap.size := Bb_6.lt
  have b_6_c0 : u6.cell? ⟨w.heap.size + 1, 0, none⟩ = some (.int .i64 b0) := (Bb_6.cell 0).trans rfl
  have b_6_f0 := Bb_6.frozen 0
  have b_6_c1 : u6.cell? ⟨w.heap.size + 1, 1, none⟩ = some (.int .i64 b1) := (Bb_6.cell 1).trans rfl
  have b_6_f1 := Bb_6.frozen 1
  go_wp2
  go_ret
  exact ⟨rfl, bl6⟩
set_option maxHeartbeats 6400000 in
set_option maxRecDepth 100000 in
theorem Turns_zero (b0 b1 p d k : Int) (t : Bool) (w : World)
    (HM1 : Hid (∀ w, Calls Try.prog 21 #[.int .i64 0, .int .i64 0] w fun e w' => e = .returned (.tuple #[.int .i64 p, .bool t]) ∧ Below w.heap.size w w')) (HM2 : Hid (∀ w, Calls Try.prog 21 #[.int .i64 0, .int .i64 0] w fun e w' => e = .returned (.tuple #[.int .i64 p, .bool t]) ∧ Below w.heap.size w w'))
    (HG : Hid (∀ w, Calls Try.prog 25 #[.int .i64 0, .int .i64 0] w fun e w' => e = .returned (.tuple #[.int .i64 0, .bool true]) ∧ Below w.heap.size w w'))
    (HC1 : Hid (∀ w, Calls Try.prog 11 #[.int .i64 0, .int .i64 0, .int .i64 b0, .int .i64 b1] w fun e w' => e = .returned (.int .i64 k) ∧ Below w.heap.size w w')) (HC2 : Hid (∀ w, Calls Try.prog 11 #[.int .i64 b0, .int .i64 b1, .int .i64 0, .int .i64 0] w fun e w' => e = .returned (.int .i64 (-k)) ∧ Below w.heap.size w w'))
    (hk : IntKind.i64.wrap k = k)  :
    Calls Try.prog 7 #[.agg #[.int .i64 0, .int .i64 0], .agg #[.int .i64 b0, .int .i64 b1]] w fun e w' => e = .returned (.bool true) ∧ Below w.heap.size w w' := by
  go_enter Try.func7, Try.ntmps7
  go_wp2_with fail
  have Ba : Blk ((w.alloc (Obj.cells #[.int .i64 0, .int .i64 0] 22)).alloc (Obj.cells #[.int .i64 b0, .int .i64 b1] 22)) (w.heap.size) 22 #[.int .i64 0, .int .i64 0] := ((Blk.new' (by simp) _ _).alloc _)
  have Bb : Blk ((w.alloc (Obj.cells #[.int .i64 0, .int .i64 0] 22)).alloc (Obj.cells #[.int .i64 b0, .int .i64 b1] 22)) (w.heap.size + 1) 22 #[.int .i64 b0, .int .i64 b1] := (Blk.new' (by simp) _ _)
  have bl0 : Below w.heap.size w ((w.alloc (Obj.cells #[.int .i64 0, .int .i64 0] 22)).alloc (Obj.cells #[.int .i64 b0, .int .i64 b1] 22)) := bl_alloc (bl_alloc (Below.refl _ _) _) _
  generalize (w.alloc (Obj.cells #[.int .i64 0, .int .i64 0] 22)).alloc (Obj.cells #[.int .i64 b0, .int .i64 b1] 22) = W0 at Ba Bb bl0 ⊢
  have a_0_z : w.heap.size < W0.heap.size := Ba.lt
  have a_0_c0 : W0.cell? ⟨w.heap.size, 0, none⟩ = some (.int .i64 0) := (Ba.cell 0).trans rfl
  have a_0_f0 := Ba.frozen 0
  have a_0_c1 : W0.cell? ⟨w.heap.size, 1, none⟩ = some (.int .i64 0) := (Ba.cell 1).trans rfl
  have a_0_f1 := Ba.frozen 1
  have b_0_z : w.heap.size + 1 < W0.heap.size := Bb.lt
  have b_0_c0 : W0.cell? ⟨w.heap.size + 1, 0, none⟩ = some (.int .i64 b0) := (Bb.cell 0).trans rfl
  have b_0_f0 := Bb.frozen 0
  have b_0_c1 : W0.cell? ⟨w.heap.size + 1, 1, none⟩ = some (.int .i64 b1) := (Bb.cell 1).trans rfl
  have b_0_f1 := Bb.frozen 1
  go_wp2_with fail
  refine (HM1.out _).mono ?_; rintro e u1 ⟨rfl, hb1⟩
  have st1 := bl_step (Below.refl _ _) hb1
  have bl1 := bl_step bl0 st1
  clear a_0_z a_0_c0 a_0_f0 a_0_c1 a_0_f1
  have Ba_1 := Ba.below st1
  clear b_0_z b_0_c0 b_0_f0 b_0_c1 b_0_f1
  have Bb_1 := Bb.below st1
  have a_1_z : w.heap.size < u1.heap.size := Ba_1.lt
  have a_1_c0 : u1.cell? ⟨w.heap.size, 0, none⟩ = some (.int .i64 0) := (Ba_1.cell 0).trans rfl
  have a_1_f0 := Ba_1.frozen 0
  have a_1_c1 : u1.cell? ⟨w.heap.size, 1, none⟩ = some (.int .i64 0) := (Ba_1.cell 1).trans rfl
  have a_1_f1 := Ba_1.frozen 1
  have b_1_z : w.heap.size + 1 < u1.heap.size := Bb_1.lt
  have b_1_c0 : u1.cell? ⟨w.heap.size + 1, 0, none⟩ = some (.int .i64 b0) := (Bb_1.cell 0).trans rfl
  have b_1_f0 := Bb_1.frozen 0
  have b_1_c1 : u1.cell? ⟨w.heap.size + 1, 1, none⟩ = some (.int .i64 b1) := (Bb_1.cell 1).trans rfl
  have b_1_f1 := Bb_1.frozen 1
  go_wp2_with fail
  refine (HM2.out _).mono ?_; rintro e u2 ⟨rfl, hb2⟩
  have st2 := bl_step (Below.refl _ _) hb2
  have bl2 := bl_step bl1 st2
  clear a_1_z a_1_c0 a_1_f0 a_1_c1 a_1_f1
  have Ba_2 := Ba_1.below st2
  clear b_1_z b_1_c0 b_1_f0 b_1_c1 b_1_f1
  have Bb_2 := Bb_1.below st2
  have a_2_z : w.heap.size < u2.heap.size := Ba_2.lt
  have a_2_c0 : u2.cell? ⟨w.heap.size, 0, none⟩ = some (.int .i64 0) := (Ba_2.cell 0).trans rfl
  have a_2_f0 := Ba_2.frozen 0
  have a_2_c1 : u2.cell? ⟨w.heap.size, 1, none⟩ = some (.int .i64 0) := (Ba_2.cell 1).trans rfl
  have a_2_f1 := Ba_2.frozen 1
  have b_2_z : w.heap.size + 1 < u2.heap.size := Bb_2.lt
  have b_2_c0 : u2.cell? ⟨w.heap.size + 1, 0, none⟩ = some (.int .i64 b0) := (Bb_2.cell 0).trans rfl
  have b_2_f0 := Bb_2.frozen 0
  have b_2_c1 : u2.cell? ⟨w.heap.size + 1, 1, none⟩ = some (.int .i64 b1) := (Bb_2.cell 1).trans rfl
  have b_2_f1 := Bb_2.frozen 1
  go_wp2_with fail
  refine (HG.out _).mono ?_; rintro e u3 ⟨rfl, hb3⟩
  have st3 := bl_step (Below.refl _ _) hb3
  have bl3 := bl_step bl2 st3
  clear a_2_z a_2_c0 a_2_f0 a_2_c1 a_2_f1
  have Ba_3 := Ba_2.below st3
  clear b_2_z b_2_c0 b_2_f0 b_2_c1 b_2_f1
  have Bb_3 := Bb_2.below st3
  have a_3_z : w.heap.size < u3.heap.size := Ba_3.lt
  have a_3_c0 : u3.cell? ⟨w.heap.size, 0, none⟩ = some (.int .i64 0) := (Ba_3.cell 0).trans rfl
  have a_3_f0 := Ba_3.frozen 0
  have a_3_c1 : u3.cell? ⟨w.heap.size, 1, none⟩ = some (.int .i64 0) := (Ba_3.cell 1).trans rfl
  have a_3_f1 := Ba_3.frozen 1
  have b_3_z : w.heap.size + 1 < u3.heap.size := Bb_3.lt
  have b_3_c0 : u3.cell? ⟨w.heap.size + 1, 0, none⟩ = some (.int .i64 b0) := (Bb_3.cell 0).trans rfl
  have b_3_f0 := Bb_3.frozen 0
  have b_3_c1 : u3.cell? ⟨w.heap.size + 1, 1, none⟩ = some (.int .i64 b1) := (Bb_3.cell 1).trans rfl
  have b_3_f1 := Bb_3.frozen 1
  go_wp2_with fail
  go_region_held3 (fun w' => w'.cell? ⟨w.heap.size, 0, none⟩ = some (.int .i64 0) ∧ w'.cell? ⟨w.heap.size, 1, none⟩ = some (.int .i64 0) ∧ w'.cell? ⟨w.heap.size + 1, 0, none⟩ = some (.int .i64 b0) ∧ w'.cell? ⟨w.heap.size + 1, 1, none⟩ = some (.int .i64 b1)) (go_keep) (first | (go_at_call 11; with_reducible refine (HC1.out _).mono ?_; rintro e u4 ⟨rfl, hb4⟩; have st4 := bl_step (bl_drew (Below.refl _ _)) hb4; have bl4 := bl_step bl3 st4; have Ba_4 := Ba_3.below st4; clear a_3_z a_3_c0 a_3_f0 a_3_c1 a_3_f1; have a_4_z : w.heap.size < u4.heap.size := Ba_4.lt; have a_4_c0 : u4.cell? ⟨w.heap.size, 0, none⟩ = some (.int .i64 0) := (Ba_4.cell 0).trans rfl; have a_4_f0 := Ba_4.frozen 0; have a_4_c1 : u4.cell? ⟨w.heap.size, 1, none⟩ = some (.int .i64 0) := (Ba_4.cell 1).trans rfl; have a_4_f1 := Ba_4.frozen 1; have Bb_4 := Bb_3.below st4; clear b_3_z b_3_c0 b_3_f0 b_3_c1 b_3_f1; have b_4_z : w.heap.size + 1 < u4.heap.size := Bb_4.lt; have b_4_c0 : u4.cell? ⟨w.heap.size + 1, 0, none⟩ = some (.int .i64 b0) := (Bb_4.cell 0).trans rfl; have b_4_f0 := Bb_4.frozen 0; have b_4_c1 : u4.cell? ⟨w.heap.size + 1, 1, none⟩ = some (.int .i64 b1) := (Bb_4.cell 1).trans rfl; have b_4_f1 := Bb_4.frozen 1) | (go_at_call 11; with_reducible refine (HC2.out _).mono ?_; rintro e u5 ⟨rfl, hb5⟩; have st5 := bl_step (Below.refl _ _) hb5; have bl5 := bl_step bl4 st5; have Ba_5 := Ba_4.below st5; clear a_4_z a_4_c0 a_4_f0 a_4_c1 a_4_f1; have a_5_z : w.heap.size < u5.heap.size := Ba_5.lt; have a_5_c0 : u5.cell? ⟨w.heap.size, 0, none⟩ = some (.int .i64 0) := (Ba_5.cell 0).trans rfl; have a_5_f0 := Ba_5.frozen 0; have a_5_c1 : u5.cell? ⟨w.heap.size, 1, none⟩ = some (.int .i64 0) := (Ba_5.cell 1).trans rfl; have a_5_f1 := Ba_5.frozen 1; have Bb_5 := Bb_4.below st5; clear b_4_z b_4_c0 b_4_f0 b_4_c1 b_4_f1; have b_5_z : w.heap.size + 1 < u5.heap.size := Bb_5.lt; have b_5_c0 : u5.cell? ⟨w.heap.size + 1, 0, none⟩ = some (.int .i64 b0) := (Bb_5.cell 0).trans rfl; have b_5_f0 := Bb_5.frozen 0; have b_5_c1 : u5.cell? ⟨w.heap.size + 1, 1, none⟩ = some (.int .i64 b1) := (Bb_5.cell 1).trans rfl; have b_5_f1 := Bb_5.frozen 1))
  go_wp2_with fail
  refine (wakes_any _).mono ?_; rintro e u6 ⟨rfl, hb6⟩
  have st6 := bl_step (Below.refl _ _) hb6
  have bl6 := bl_step bl5 st6
  clear a_5_z a_5_c0 a_5_f0 a_5_c1 a_5_f1
  have Ba_6 := Ba_5.below st6
  clear b_5_z b_5_c0 b_5_f0 b_5_c1 b_5_f1
  have Bb_6 := Bb_5.below st6
  have a_6_z : w.heap.size < u6.heap.size := Ba_6.lt
  have a_6_c0 : u6.cell? ⟨w.heap.size, 0, none⟩ = some (.int .i64 0) := (Ba_6.cell 0).trans rfl
  have a_6_f0 := Ba_6.frozen 0
  have a_6_c1 : u6.cell? ⟨w.heap.size, 1, none⟩ = some (.int .i64 0) := (Ba_6.cell 1).trans rfl
  have a_6_f1 := Ba_6.frozen 1
  have b_6_z : w.heap.size + 1 < u6.heap.size := Bb_6.lt
  have b_6_c0 : u6.cell? ⟨w.heap.size + 1, 0, none⟩ = some (.int .i64 b0) := (Bb_6.cell 0).trans rfl
  have b_6_f0 := Bb_6.frozen 0
  have b_6_c1 : u6.cell? ⟨w.heap.size + 1, 1, none⟩ = some (.int .i64 b1) := (Bb_6.cell 1).trans rfl
  have b_6_f1 := Bb_6.frozen 1
  go_wp2
  go_ret
  exact ⟨rfl, bl6⟩
theorem cmp3_turn (x y : Int) : cmp3 y x = -cmp3 x y := by
  unfold cmp3
  by_cases h1 : x < y
  · rw [if_pos h1, if_neg (by omega), if_neg (by omega)]; rfl
  · by_cases h2 : x = y
    · subst h2; rw [if_neg (by omega), if_pos rfl]; rfl
    · rw [if_neg h1, if_neg h2, if_pos (by omega)]
theorem cmp3_wrap (x y : Int) : IntKind.i64.wrap (cmp3 x y) = cmp3 x y := by
  unfold cmp3
  split
  · decide
  · split <;> decide
theorem NumTurns_walk (a0 a1 b0 b1 : Int) (w : World) (ia0 : InI a0) (ia1 : InI a1) (ib0 : InI b0) (ib1 : InI b1) :
    Calls Try.prog 7 #[.agg #[.int .i64 a0, .int .i64 a1], .agg #[.int .i64 b0, .int .i64 b1]] w fun e w' => e = .returned (.bool true) ∧ Below w.heap.size w w' := by
  have HM1 := fun w => Mul_any a0 a1 w ia0 ia1
  have HM2 := fun w => Mul_any a1 a0 w ia1 ia0
  rw [Int.mul_comm a1 a0] at HM2
  have HC1 := fun w => Cross_any a0 a1 b0 b1 w ia0 ia1 ib0 ib1
  have HC2 := fun w => Cross_any b0 b1 a0 a1 w ib0 ib1 ia0 ia1
  rw [cmp3_turn] at HC2
  have hk := cmp3_wrap (a0 * b1) (b0 * a1)
  have HG := fun w => Gcd_any a0 a1 w ia0 ia1
  have g0 := Nat.gcd_dvd_left a0.natAbs a1.natAbs
  have g1 := Nat.gcd_dvd_right a0.natAbs a1.natAbs
  have gz := @Nat.gcd_eq_zero_iff a0.natAbs a1.natAbs
  have gl : a0 = 0 → Nat.gcd a0.natAbs a1.natAbs = a1.natAbs := by rintro rfl; simp
  generalize Nat.gcd a0.natAbs a1.natAbs = g at HG g0 g1 gz gl
  generalize fitN (a0 * a1) = p at HM1 HM2
  generalize fitB (a0 * a1) = t at HM1 HM2
  generalize cmp3 (a0 * b1) (b0 * a1) = k at HC1 HC2 hk
  by_cases hf : -9223372036854775808 ≤ (g : Int) ∧ (g : Int) ≤ 9223372036854775807
  · rw [show fitN (g : Int) = g from if_pos hf, show fitB (g : Int) = true from decide_eq_true hf] at HG
    by_cases hz : g = 0
    · obtain ⟨z0, z1⟩ := gz.1 hz
      obtain rfl : a0 = 0 := by omega
      obtain rfl : a1 = 0 := by omega
      subst hz
      exact Turns_zero b0 b1 p 0 k t w (Lib.hid HM1) (Lib.hid HM2) (Lib.hid HG) (Lib.hid HC1) (Lib.hid HC2) hk
    · exact Turns_pos a0 a1 b0 b1 p g k t w (Lib.hid HM1) (Lib.hid HM2) (Lib.hid HG) (Lib.hid HC1) (Lib.hid HC2) hk (by omega) (by omega) (Int.tmod_eq_zero_of_dvd (Int.ofNat_dvd_left.2 g0)) (Int.tmod_eq_zero_of_dvd (Int.ofNat_dvd_left.2 g1))
  · rw [show fitN (g : Int) = 0 from if_neg hf, show fitB (g : Int) = false from decide_eq_false hf] at HG
    obtain ⟨x1, x2⟩ := ia0
    obtain ⟨y1, y2⟩ := ia1
    by_cases hm : a0 = -9223372036854775808
    · subst hm
      exact Turns_none_a a1 b0 b1 p 0 k t w (Lib.hid HM1) (Lib.hid HM2) (Lib.hid HG) (Lib.hid HC1) (Lib.hid HC2) hk
    · have hn : a1 = -9223372036854775808 := by
        by_cases h0 : a0 = 0
        · have := gl h0; omega
        · have := Nat.le_of_dvd (by omega) g0; omega
      subst hn
      exact Turns_none_b a0 b0 b1 p 0 k t w (Lib.hid HM1) (Lib.hid HM2) (Lib.hid HG) (Lib.hid HC1) (Lib.hid HC2) hk (by simpa using hm)
end Go.Proofs.Yteddbdmddgmicaa
