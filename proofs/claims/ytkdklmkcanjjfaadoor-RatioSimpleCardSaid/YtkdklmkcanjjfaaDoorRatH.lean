/- The walks of ratio, part H: Add, Mul. -/
import Derived.Test.YtkdklmkcanjjfaaDoorRatC
namespace Go.Proofs.YtkdklmkcanjjfaaDoor
open Go.RowKit
set_option linter.unusedVariables false
set_option linter.unusedSimpArgs false
set_option maxRecDepth 100000

/-- What the chain's telling leaves: its cell turns, all else is as it was. -/
structure Told (g : Nat) (B : Bool) (w w' : World) : Prop where
  own : Blk w' g 76 #[.bool B]
  keep : ∀ (b : Nat) (t : TypeId) (cs : Array Value), b ≠ g → Blk w b t cs → Blk w' b t cs
  below : ∀ w0 : World, Below w0.heap.size w0 w → w0.heap.size ≤ g → Below w0.heap.size w0 w'
theorem told_set {w : World} {g : Nat} {br : Bool} (h : Blk w g 76 #[.bool br]) (B : Bool) : Told g B w (w.setCell ⟨g, 0, none⟩ (.bool B)) :=
  ⟨h.put 0 _ rfl, fun b t cs hb hk => hk.far (p := ⟨g, 0, none⟩) hb _, fun w0 hb hg => bl_set hb (p := ⟨g, 0, none⟩) hg _⟩
theorem told_c (g : Nat) (br ok B : Bool) (n : Int) (w : World) (h : Blk w g 76 #[.bool br]) (hB : (br || !ok) = B) :
    Calls Tryd.prog 55 #[.pointer (some ⟨g, 0, none⟩), .int .i64 n, .bool ok] w fun e w' => e = .returned (.int .i64 n) ∧ Told g B w w' := by
  have sz := h.lt
  have c0 : w.cell? ⟨g, 0, none⟩ = some (.bool br) := (h.cell 0).trans rfl
  have f0 := h.frozen 0
  have HT := Lib.hid (told_set h)
  subst hB
  cases br <;> cases ok
  all_goals
    go_enter Tryd.func55, Tryd.ntmps55
    go_wp2
    go_ret
    exact ⟨rfl, HT.out _⟩
set_option maxHeartbeats 800000 in
theorem radd_no (a b c d : Int) (w : World) (HB : Hid (∀ w, Calls Tryd.prog 49 #[.agg #[.int .i64 a, .int .i64 b], .agg #[.int .i64 c, .int .i64 d]] w fun e w' => e = .returned (.bool false) ∧ Below w.heap.size w w')) :
    Calls Tryd.prog 27 #[.agg #[.int .i64 a, .int .i64 b], .agg #[.int .i64 c, .int .i64 d]] w fun e w' => e = .returned (.tuple #[.agg #[.int .i64 0, .int .i64 0], .bool false]) ∧ Below w.heap.size w w' := by
    go_enter Tryd.func27, Tryd.ntmps27
    go_wp2_with fail
    refine (HB.out _).mono ?_; rintro e v1 ⟨rfl, hb1⟩
    have st1 := bl_step (bl_alloc (bl_alloc (bl_alloc (Below.refl _ _) _) _) _) hb1
    have bl1 := st1
    have Ba_1 : Blk v1 (w.heap.size) 23 #[.int .i64 a, .int .i64 b] := (((Blk.new _ _ _).alloc _).alloc _).below hb1
    have Bc_1 : Blk v1 (w.heap.size + 1) 23 #[.int .i64 c, .int .i64 d] := ((Blk.new' (by simp) _ _).alloc _).below hb1
    have Br_1 : Blk v1 (w.heap.size + 1 + 1) 23 #[.int .i64 0, .int .i64 0] := (Blk.new' (by simp) _ _).below hb1
    have a_1_z : w.heap.size < v1.heap.size := Ba_1.lt
    have a_1_c0 : v1.cell? ⟨w.heap.size, 0, none⟩ = some (.int .i64 a) := (Ba_1.cell 0).trans rfl
    have a_1_f0 := Ba_1.frozen 0
    have a_1_c1 : v1.cell? ⟨w.heap.size, 1, none⟩ = some (.int .i64 b) := (Ba_1.cell 1).trans rfl
    have a_1_f1 := Ba_1.frozen 1
    have c_1_z : w.heap.size + 1 < v1.heap.size := Bc_1.lt
    have c_1_c0 : v1.cell? ⟨w.heap.size + 1, 0, none⟩ = some (.int .i64 c) := (Bc_1.cell 0).trans rfl
    have c_1_f0 := Bc_1.frozen 0
    have c_1_c1 : v1.cell? ⟨w.heap.size + 1, 1, none⟩ = some (.int .i64 d) := (Bc_1.cell 1).trans rfl
    have c_1_f1 := Bc_1.frozen 1
    have r_1_z : w.heap.size + 1 + 1 < v1.heap.size := Br_1.lt
    have r_1_c0 : v1.cell? ⟨w.heap.size + 1 + 1, 0, none⟩ = some (.int .i64 0) := (Br_1.cell 0).trans rfl
    have r_1_f0 := Br_1.frozen 0
    have r_1_c1 : v1.cell? ⟨w.heap.size + 1 + 1, 1, none⟩ = some (.int .i64 0) := (Br_1.cell 1).trans rfl
    have r_1_f1 := Br_1.frozen 1
    go_wp2
    refine bodyPost_ret (v := .tuple #[.agg #[.int .i64 0, .int .i64 0], .bool false]) (by simp [results, Tryd.results27, go_sem, r_1_c0, r_1_f0, r_1_c1, r_1_f1]) rfl ⟨rfl, ?_⟩
    (repeat (first | exact Below.refl _ _ | with_reducible assumption | refine bl_alloc ?_ _ | refine bl_set ?_ (by simp <;> omega) _ | refine bl_drew ?_ | refine bl_drewN ?_ _ | refine bl_step ?_ (by assumption)))
set_option maxHeartbeats 800000 in
theorem rmul_no (a b c d : Int) (w : World) (HB : Hid (∀ w, Calls Tryd.prog 49 #[.agg #[.int .i64 a, .int .i64 b], .agg #[.int .i64 c, .int .i64 d]] w fun e w' => e = .returned (.bool false) ∧ Below w.heap.size w w')) :
    Calls Tryd.prog 29 #[.agg #[.int .i64 a, .int .i64 b], .agg #[.int .i64 c, .int .i64 d]] w fun e w' => e = .returned (.tuple #[.agg #[.int .i64 0, .int .i64 0], .bool false]) ∧ Below w.heap.size w w' := by
    go_enter Tryd.func29, Tryd.ntmps29
    go_wp2_with fail
    refine (HB.out _).mono ?_; rintro e v1 ⟨rfl, hb1⟩
    have st1 := bl_step (bl_alloc (bl_alloc (bl_alloc (Below.refl _ _) _) _) _) hb1
    have bl1 := st1
    have Ba_1 : Blk v1 (w.heap.size) 23 #[.int .i64 a, .int .i64 b] := (((Blk.new _ _ _).alloc _).alloc _).below hb1
    have Bc_1 : Blk v1 (w.heap.size + 1) 23 #[.int .i64 c, .int .i64 d] := ((Blk.new' (by simp) _ _).alloc _).below hb1
    have Br_1 : Blk v1 (w.heap.size + 1 + 1) 23 #[.int .i64 0, .int .i64 0] := (Blk.new' (by simp) _ _).below hb1
    have a_1_z : w.heap.size < v1.heap.size := Ba_1.lt
    have a_1_c0 : v1.cell? ⟨w.heap.size, 0, none⟩ = some (.int .i64 a) := (Ba_1.cell 0).trans rfl
    have a_1_f0 := Ba_1.frozen 0
    have a_1_c1 : v1.cell? ⟨w.heap.size, 1, none⟩ = some (.int .i64 b) := (Ba_1.cell 1).trans rfl
    have a_1_f1 := Ba_1.frozen 1
    have c_1_z : w.heap.size + 1 < v1.heap.size := Bc_1.lt
    have c_1_c0 : v1.cell? ⟨w.heap.size + 1, 0, none⟩ = some (.int .i64 c) := (Bc_1.cell 0).trans rfl
    have c_1_f0 := Bc_1.frozen 0
    have c_1_c1 : v1.cell? ⟨w.heap.size + 1, 1, none⟩ = some (.int .i64 d) := (Bc_1.cell 1).trans rfl
    have c_1_f1 := Bc_1.frozen 1
    have r_1_z : w.heap.size + 1 + 1 < v1.heap.size := Br_1.lt
    have r_1_c0 : v1.cell? ⟨w.heap.size + 1 + 1, 0, none⟩ = some (.int .i64 0) := (Br_1.cell 0).trans rfl
    have r_1_f0 := Br_1.frozen 0
    have r_1_c1 : v1.cell? ⟨w.heap.size + 1 + 1, 1, none⟩ = some (.int .i64 0) := (Br_1.cell 1).trans rfl
    have r_1_f1 := Br_1.frozen 1
    go_wp2
    refine bodyPost_ret (v := .tuple #[.agg #[.int .i64 0, .int .i64 0], .bool false]) (by simp [results, Tryd.results29, go_sem, r_1_c0, r_1_f0, r_1_c1, r_1_f1]) rfl ⟨rfl, ?_⟩
    (repeat (first | exact Below.refl _ _ | with_reducible assumption | refine bl_alloc ?_ _ | refine bl_set ?_ (by simp <;> omega) _ | refine bl_drew ?_ | refine bl_drewN ?_ _ | refine bl_step ?_ (by assumption)))
set_option maxHeartbeats 3200000 in
theorem radd_broken (a b c d g p q X Y S M N D : Int) (x2 x3 x4 x5 x6 B2 B3 B4 : Bool) (w : World) (HB : (Hid (∀ w, Calls Tryd.prog 49 #[.agg #[.int .i64 a, .int .i64 b], .agg #[.int .i64 c, .int .i64 d]] w fun e w' => e = .returned (.bool true) ∧ Below w.heap.size w w')))
    (hgz : (g == 0) = false) (hgn : ¬ g = 0) (wp : IntKind.i64.wrap p = p) (wq : IntKind.i64.wrap q = q) (hp : b.tdiv g = p) (hq : d.tdiv g = q) (p1 : -9223372036854775808 ≤ p) (p2 : p ≤ 9223372036854775807) (q1 : -9223372036854775808 ≤ q) (q2 : q ≤ 9223372036854775807)
    (hB1 : Hid ((false || !true) = false)) (hB2 : Hid ((false || !x2) = B2)) (hB3 : Hid ((B2 || !x3) = B3)) (hB4 : Hid ((B3 || !x4) = B4)) (hE : Hid ((B4 || !x5) = true))
    (H1 : (Hid (∀ w, Calls Tryd.prog 37 #[.int .i64 b, .int .i64 d] w fun e w' => e = .returned (.tuple #[.int .i64 g, .bool true]) ∧ Below w.heap.size w w')))
    (H2 : (Hid (∀ w, Calls Tryd.prog 56 #[.int .i64 a, .int .i64 q] w fun e w' => e = .returned (.tuple #[.int .i64 X, .bool x2]) ∧ Below w.heap.size w w')))
    (H3 : (Hid (∀ w, Calls Tryd.prog 56 #[.int .i64 c, .int .i64 p] w fun e w' => e = .returned (.tuple #[.int .i64 Y, .bool x3]) ∧ Below w.heap.size w w')))
    (H4 : (Hid (∀ w, Calls Tryd.prog 57 #[.int .i64 X, .int .i64 Y] w fun e w' => e = .returned (.tuple #[.int .i64 S, .bool x4]) ∧ Below w.heap.size w w')))
    (H5 : (Hid (∀ w, Calls Tryd.prog 56 #[.int .i64 b, .int .i64 q] w fun e w' => e = .returned (.tuple #[.int .i64 M, .bool x5]) ∧ Below w.heap.size w w')))
    (H6 : (Hid (∀ w, Calls Tryd.prog 11 #[.int .i64 S, .int .i64 M] w fun e w' => e = .returned (.tuple #[.agg #[.int .i64 N, .int .i64 D], .bool x6]) ∧ Below w.heap.size w w'))) :
    Calls Tryd.prog 27 #[.agg #[.int .i64 a, .int .i64 b], .agg #[.int .i64 c, .int .i64 d]] w fun e w' => e = .returned (.tuple #[.agg #[.int .i64 0, .int .i64 0], .bool false]) ∧ Below w.heap.size w w' := by
  go_enter Tryd.func27, Tryd.ntmps27
  go_wp2_with fail
  refine (HB.out _).mono ?_; rintro e v1 ⟨rfl, hb1⟩
  have st1 := bl_step (bl_alloc (bl_alloc (bl_alloc (Below.refl _ _) _) _) _) hb1
  have bl1 := st1
  have Ba_1 : Blk v1 (w.heap.size) 23 #[.int .i64 a, .int .i64 b] := (((Blk.new _ _ _).alloc _).alloc _).below hb1
  have Bc_1 : Blk v1 (w.heap.size + 1) 23 #[.int .i64 c, .int .i64 d] := ((Blk.new' (by simp) _ _).alloc _).below hb1
  have Br_1 : Blk v1 (w.heap.size + 1 + 1) 23 #[.int .i64 0, .int .i64 0] := (Blk.new' (by simp) _ _).below hb1
  have a_1_z : w.heap.size < v1.heap.size := Ba_1.lt
  have a_1_c0 : v1.cell? ⟨w.heap.size, 0, none⟩ = some (.int .i64 a) := (Ba_1.cell 0).trans rfl
  have a_1_f0 := Ba_1.frozen 0
  have a_1_c1 : v1.cell? ⟨w.heap.size, 1, none⟩ = some (.int .i64 b) := (Ba_1.cell 1).trans rfl
  have a_1_f1 := Ba_1.frozen 1
  have c_1_z : w.heap.size + 1 < v1.heap.size := Bc_1.lt
  have c_1_c0 : v1.cell? ⟨w.heap.size + 1, 0, none⟩ = some (.int .i64 c) := (Bc_1.cell 0).trans rfl
  have c_1_f0 := Bc_1.frozen 0
  have c_1_c1 : v1.cell? ⟨w.heap.size + 1, 1, none⟩ = some (.int .i64 d) := (Bc_1.cell 1).trans rfl
  have c_1_f1 := Bc_1.frozen 1
  have r_1_z : w.heap.size + 1 + 1 < v1.heap.size := Br_1.lt
  have r_1_c0 : v1.cell? ⟨w.heap.size + 1 + 1, 0, none⟩ = some (.int .i64 0) := (Br_1.cell 0).trans rfl
  have r_1_f0 := Br_1.frozen 0
  have r_1_c1 : v1.cell? ⟨w.heap.size + 1 + 1, 1, none⟩ = some (.int .i64 0) := (Br_1.cell 1).trans rfl
  have r_1_f1 := Br_1.frozen 1
  go_wp2_with fail
  refine (H1.out _).mono ?_; rintro e v2 ⟨rfl, hb2⟩
  have st2 := bl_step (bl_alloc (Below.refl _ _) _) hb2
  have bl2 := bl_step bl1 st2
  have Bk_2 : Blk v2 (v1.heap.size) 76 #[.bool false] := (Blk.new _ _ _).below hb2
  clear a_1_z a_1_c0 a_1_f0 a_1_c1 a_1_f1
  have Ba_2 := Ba_1.below st2
  clear c_1_z c_1_c0 c_1_f0 c_1_c1 c_1_f1
  have Bc_2 := Bc_1.below st2
  clear r_1_z r_1_c0 r_1_f0 r_1_c1 r_1_f1
  have Br_2 := Br_1.below st2
  have a_2_z : w.heap.size < v2.heap.size := Ba_2.lt
  have a_2_c0 : v2.cell? ⟨w.heap.size, 0, none⟩ = some (.int .i64 a) := (Ba_2.cell 0).trans rfl
  have a_2_f0 := Ba_2.frozen 0
  have a_2_c1 : v2.cell? ⟨w.heap.size, 1, none⟩ = some (.int .i64 b) := (Ba_2.cell 1).trans rfl
  have a_2_f1 := Ba_2.frozen 1
  have c_2_z : w.heap.size + 1 < v2.heap.size := Bc_2.lt
  have c_2_c0 : v2.cell? ⟨w.heap.size + 1, 0, none⟩ = some (.int .i64 c) := (Bc_2.cell 0).trans rfl
  have c_2_f0 := Bc_2.frozen 0
  have c_2_c1 : v2.cell? ⟨w.heap.size + 1, 1, none⟩ = some (.int .i64 d) := (Bc_2.cell 1).trans rfl
  have c_2_f1 := Bc_2.frozen 1
  have r_2_z : w.heap.size + 1 + 1 < v2.heap.size := Br_2.lt
  have r_2_c0 : v2.cell? ⟨w.heap.size + 1 + 1, 0, none⟩ = some (.int .i64 0) := (Br_2.cell 0).trans rfl
  have r_2_f0 := Br_2.frozen 0
  have r_2_c1 : v2.cell? ⟨w.heap.size + 1 + 1, 1, none⟩ = some (.int .i64 0) := (Br_2.cell 1).trans rfl
  have r_2_f1 := Br_2.frozen 1
  have k_2_z : v1.heap.size < v2.heap.size := Bk_2.lt
  have k_2_c0 : v2.cell? ⟨v1.heap.size, 0, none⟩ = some (.bool false) := (Bk_2.cell 0).trans rfl
  have k_2_f0 := Bk_2.frozen 0
  go_wp2_with fail
  refine (told_c _ _ _ _ _ _ Bk_2 hB1.out).mono ?_; rintro e z2 ⟨rfl, ht2⟩
  have nt_a_2 : w.heap.size ≠ v1.heap.size := (by have := Ba_1.lt; omega)
  have Ya_2 := ht2.keep _ _ _ nt_a_2 Ba_2
  have nt_c_2 : w.heap.size + 1 ≠ v1.heap.size := (by have := Bc_1.lt; omega)
  have Yc_2 := ht2.keep _ _ _ nt_c_2 Bc_2
  have nt_r_2 : w.heap.size + 1 + 1 ≠ v1.heap.size := (by have := Br_1.lt; omega)
  have Yr_2 := ht2.keep _ _ _ nt_r_2 Br_2
  have Yk_2 := ht2.own
  have bl2 := ht2.below _ bl2 (by have := bl1.size; omega)
  clear a_2_z a_2_c0 a_2_f0 a_2_c1 a_2_f1
  clear c_2_z c_2_c0 c_2_f0 c_2_c1 c_2_f1
  clear r_2_z r_2_c0 r_2_f0 r_2_c1 r_2_f1
  clear k_2_z k_2_c0 k_2_f0
  have a_t2_z : w.heap.size < z2.heap.size := Ya_2.lt
  have a_t2_c0 : z2.cell? ⟨w.heap.size, 0, none⟩ = some (.int .i64 a) := (Ya_2.cell 0).trans rfl
  have a_t2_f0 := Ya_2.frozen 0
  have a_t2_c1 : z2.cell? ⟨w.heap.size, 1, none⟩ = some (.int .i64 b) := (Ya_2.cell 1).trans rfl
  have a_t2_f1 := Ya_2.frozen 1
  have c_t2_z : w.heap.size + 1 < z2.heap.size := Yc_2.lt
  have c_t2_c0 : z2.cell? ⟨w.heap.size + 1, 0, none⟩ = some (.int .i64 c) := (Yc_2.cell 0).trans rfl
  have c_t2_f0 := Yc_2.frozen 0
  have c_t2_c1 : z2.cell? ⟨w.heap.size + 1, 1, none⟩ = some (.int .i64 d) := (Yc_2.cell 1).trans rfl
  have c_t2_f1 := Yc_2.frozen 1
  have r_t2_z : w.heap.size + 1 + 1 < z2.heap.size := Yr_2.lt
  have r_t2_c0 : z2.cell? ⟨w.heap.size + 1 + 1, 0, none⟩ = some (.int .i64 0) := (Yr_2.cell 0).trans rfl
  have r_t2_f0 := Yr_2.frozen 0
  have r_t2_c1 : z2.cell? ⟨w.heap.size + 1 + 1, 1, none⟩ = some (.int .i64 0) := (Yr_2.cell 1).trans rfl
  have r_t2_f1 := Yr_2.frozen 1
  have k_t2_z : v1.heap.size < z2.heap.size := Yk_2.lt
  have k_t2_c0 : z2.cell? ⟨v1.heap.size, 0, none⟩ = some (.bool false) := (Yk_2.cell 0).trans rfl
  have k_t2_f0 := Yk_2.frozen 0
  go_wp2_with fail
  go_region_held3 (fun w' => w'.cell? ⟨w.heap.size, 0, none⟩ = some (.int .i64 a) ∧ w'.cell? ⟨w.heap.size, 1, none⟩ = some (.int .i64 b) ∧ w'.cell? ⟨w.heap.size + 1, 0, none⟩ = some (.int .i64 c) ∧ w'.cell? ⟨w.heap.size + 1, 1, none⟩ = some (.int .i64 d)) (go_keep) (first | (go_at_call 56; with_reducible refine (H2.out _).mono ?_; rintro e v3 ⟨rfl, hb3⟩; have st3 := bl_step (bl_drew (Below.refl _ _)) hb3; have bl3 := bl_step bl2 st3; clear a_t2_z a_t2_c0 a_t2_f0 a_t2_c1 a_t2_f1; have Ba_3 := Ya_2.below st3; clear c_t2_z c_t2_c0 c_t2_f0 c_t2_c1 c_t2_f1; have Bc_3 := Yc_2.below st3; clear r_t2_z r_t2_c0 r_t2_f0 r_t2_c1 r_t2_f1; have Br_3 := Yr_2.below st3; clear k_t2_z k_t2_c0 k_t2_f0; have Bk_3 := Yk_2.below st3; have a_3_z : w.heap.size < v3.heap.size := Ba_3.lt; have a_3_c0 : v3.cell? ⟨w.heap.size, 0, none⟩ = some (.int .i64 a) := (Ba_3.cell 0).trans rfl; have a_3_f0 := Ba_3.frozen 0; have a_3_c1 : v3.cell? ⟨w.heap.size, 1, none⟩ = some (.int .i64 b) := (Ba_3.cell 1).trans rfl; have a_3_f1 := Ba_3.frozen 1; have c_3_z : w.heap.size + 1 < v3.heap.size := Bc_3.lt; have c_3_c0 : v3.cell? ⟨w.heap.size + 1, 0, none⟩ = some (.int .i64 c) := (Bc_3.cell 0).trans rfl; have c_3_f0 := Bc_3.frozen 0; have c_3_c1 : v3.cell? ⟨w.heap.size + 1, 1, none⟩ = some (.int .i64 d) := (Bc_3.cell 1).trans rfl; have c_3_f1 := Bc_3.frozen 1; have r_3_z : w.heap.size + 1 + 1 < v3.heap.size := Br_3.lt; have r_3_c0 : v3.cell? ⟨w.heap.size + 1 + 1, 0, none⟩ = some (.int .i64 0) := (Br_3.cell 0).trans rfl; have r_3_f0 := Br_3.frozen 0; have r_3_c1 : v3.cell? ⟨w.heap.size + 1 + 1, 1, none⟩ = some (.int .i64 0) := (Br_3.cell 1).trans rfl; have r_3_f1 := Br_3.frozen 1; have k_3_z : v1.heap.size < v3.heap.size := Bk_3.lt; have k_3_c0 : v3.cell? ⟨v1.heap.size, 0, none⟩ = some (.bool false) := (Bk_3.cell 0).trans rfl; have k_3_f0 := Bk_3.frozen 0) | (go_at_call 55; with_reducible refine (told_c _ _ _ _ _ _ Bk_3 hB2.out).mono ?_; rintro e z3 ⟨rfl, ht3⟩; have nt_a_3 : w.heap.size ≠ v1.heap.size := (by have := Ba_1.lt; omega); have Ya_3 := ht3.keep _ _ _ nt_a_3 Ba_3; have nt_c_3 : w.heap.size + 1 ≠ v1.heap.size := (by have := Bc_1.lt; omega); have Yc_3 := ht3.keep _ _ _ nt_c_3 Bc_3; have nt_r_3 : w.heap.size + 1 + 1 ≠ v1.heap.size := (by have := Br_1.lt; omega); have Yr_3 := ht3.keep _ _ _ nt_r_3 Br_3; have Yk_3 := ht3.own; have bl3 := ht3.below _ bl3 (by have := bl1.size; omega); clear a_3_z a_3_c0 a_3_f0 a_3_c1 a_3_f1; clear c_3_z c_3_c0 c_3_f0 c_3_c1 c_3_f1; clear r_3_z r_3_c0 r_3_f0 r_3_c1 r_3_f1; clear k_3_z k_3_c0 k_3_f0; have a_t3_z : w.heap.size < z3.heap.size := Ya_3.lt; have a_t3_c0 : z3.cell? ⟨w.heap.size, 0, none⟩ = some (.int .i64 a) := (Ya_3.cell 0).trans rfl; have a_t3_f0 := Ya_3.frozen 0; have a_t3_c1 : z3.cell? ⟨w.heap.size, 1, none⟩ = some (.int .i64 b) := (Ya_3.cell 1).trans rfl; have a_t3_f1 := Ya_3.frozen 1; have c_t3_z : w.heap.size + 1 < z3.heap.size := Yc_3.lt; have c_t3_c0 : z3.cell? ⟨w.heap.size + 1, 0, none⟩ = some (.int .i64 c) := (Yc_3.cell 0).trans rfl; have c_t3_f0 := Yc_3.frozen 0; have c_t3_c1 : z3.cell? ⟨w.heap.size + 1, 1, none⟩ = some (.int .i64 d) := (Yc_3.cell 1).trans rfl; have c_t3_f1 := Yc_3.frozen 1; have r_t3_z : w.heap.size + 1 + 1 < z3.heap.size := Yr_3.lt; have r_t3_c0 : z3.cell? ⟨w.heap.size + 1 + 1, 0, none⟩ = some (.int .i64 0) := (Yr_3.cell 0).trans rfl; have r_t3_f0 := Yr_3.frozen 0; have r_t3_c1 : z3.cell? ⟨w.heap.size + 1 + 1, 1, none⟩ = some (.int .i64 0) := (Yr_3.cell 1).trans rfl; have r_t3_f1 := Yr_3.frozen 1; have k_t3_z : v1.heap.size < z3.heap.size := Yk_3.lt; have k_t3_c0 : z3.cell? ⟨v1.heap.size, 0, none⟩ = some (.bool B2) := (Yk_3.cell 0).trans rfl; have k_t3_f0 := Yk_3.frozen 0))
  go_wp2_with fail
  go_region_held3 (fun w' => w'.cell? ⟨w.heap.size, 0, none⟩ = some (.int .i64 a) ∧ w'.cell? ⟨w.heap.size, 1, none⟩ = some (.int .i64 b) ∧ w'.cell? ⟨w.heap.size + 1, 0, none⟩ = some (.int .i64 c) ∧ w'.cell? ⟨w.heap.size + 1, 1, none⟩ = some (.int .i64 d)) (go_keep) (first | (go_at_call 56; with_reducible refine (H3.out _).mono ?_; rintro e v4 ⟨rfl, hb4⟩; have st4 := bl_step (bl_drew (Below.refl _ _)) hb4; have bl4 := bl_step bl3 st4; clear a_t3_z a_t3_c0 a_t3_f0 a_t3_c1 a_t3_f1; have Ba_4 := Ya_3.below st4; clear c_t3_z c_t3_c0 c_t3_f0 c_t3_c1 c_t3_f1; have Bc_4 := Yc_3.below st4; clear r_t3_z r_t3_c0 r_t3_f0 r_t3_c1 r_t3_f1; have Br_4 := Yr_3.below st4; clear k_t3_z k_t3_c0 k_t3_f0; have Bk_4 := Yk_3.below st4; have a_4_z : w.heap.size < v4.heap.size := Ba_4.lt; have a_4_c0 : v4.cell? ⟨w.heap.size, 0, none⟩ = some (.int .i64 a) := (Ba_4.cell 0).trans rfl; have a_4_f0 := Ba_4.frozen 0; have a_4_c1 : v4.cell? ⟨w.heap.size, 1, none⟩ = some (.int .i64 b) := (Ba_4.cell 1).trans rfl; have a_4_f1 := Ba_4.frozen 1; have c_4_z : w.heap.size + 1 < v4.heap.size := Bc_4.lt; have c_4_c0 : v4.cell? ⟨w.heap.size + 1, 0, none⟩ = some (.int .i64 c) := (Bc_4.cell 0).trans rfl; have c_4_f0 := Bc_4.frozen 0; have c_4_c1 : v4.cell? ⟨w.heap.size + 1, 1, none⟩ = some (.int .i64 d) := (Bc_4.cell 1).trans rfl; have c_4_f1 := Bc_4.frozen 1; have r_4_z : w.heap.size + 1 + 1 < v4.heap.size := Br_4.lt; have r_4_c0 : v4.cell? ⟨w.heap.size + 1 + 1, 0, none⟩ = some (.int .i64 0) := (Br_4.cell 0).trans rfl; have r_4_f0 := Br_4.frozen 0; have r_4_c1 : v4.cell? ⟨w.heap.size + 1 + 1, 1, none⟩ = some (.int .i64 0) := (Br_4.cell 1).trans rfl; have r_4_f1 := Br_4.frozen 1; have k_4_z : v1.heap.size < v4.heap.size := Bk_4.lt; have k_4_c0 : v4.cell? ⟨v1.heap.size, 0, none⟩ = some (.bool B2) := (Bk_4.cell 0).trans rfl; have k_4_f0 := Bk_4.frozen 0) | (go_at_call 55; with_reducible refine (told_c _ _ _ _ _ _ Bk_4 hB3.out).mono ?_; rintro e z4 ⟨rfl, ht4⟩; have nt_a_4 : w.heap.size ≠ v1.heap.size := (by have := Ba_1.lt; omega); have Ya_4 := ht4.keep _ _ _ nt_a_4 Ba_4; have nt_c_4 : w.heap.size + 1 ≠ v1.heap.size := (by have := Bc_1.lt; omega); have Yc_4 := ht4.keep _ _ _ nt_c_4 Bc_4; have nt_r_4 : w.heap.size + 1 + 1 ≠ v1.heap.size := (by have := Br_1.lt; omega); have Yr_4 := ht4.keep _ _ _ nt_r_4 Br_4; have Yk_4 := ht4.own; have bl4 := ht4.below _ bl4 (by have := bl1.size; omega); clear a_4_z a_4_c0 a_4_f0 a_4_c1 a_4_f1; clear c_4_z c_4_c0 c_4_f0 c_4_c1 c_4_f1; clear r_4_z r_4_c0 r_4_f0 r_4_c1 r_4_f1; clear k_4_z k_4_c0 k_4_f0; have a_t4_z : w.heap.size < z4.heap.size := Ya_4.lt; have a_t4_c0 : z4.cell? ⟨w.heap.size, 0, none⟩ = some (.int .i64 a) := (Ya_4.cell 0).trans rfl; have a_t4_f0 := Ya_4.frozen 0; have a_t4_c1 : z4.cell? ⟨w.heap.size, 1, none⟩ = some (.int .i64 b) := (Ya_4.cell 1).trans rfl; have a_t4_f1 := Ya_4.frozen 1; have c_t4_z : w.heap.size + 1 < z4.heap.size := Yc_4.lt; have c_t4_c0 : z4.cell? ⟨w.heap.size + 1, 0, none⟩ = some (.int .i64 c) := (Yc_4.cell 0).trans rfl; have c_t4_f0 := Yc_4.frozen 0; have c_t4_c1 : z4.cell? ⟨w.heap.size + 1, 1, none⟩ = some (.int .i64 d) := (Yc_4.cell 1).trans rfl; have c_t4_f1 := Yc_4.frozen 1; have r_t4_z : w.heap.size + 1 + 1 < z4.heap.size := Yr_4.lt; have r_t4_c0 : z4.cell? ⟨w.heap.size + 1 + 1, 0, none⟩ = some (.int .i64 0) := (Yr_4.cell 0).trans rfl; have r_t4_f0 := Yr_4.frozen 0; have r_t4_c1 : z4.cell? ⟨w.heap.size + 1 + 1, 1, none⟩ = some (.int .i64 0) := (Yr_4.cell 1).trans rfl; have r_t4_f1 := Yr_4.frozen 1; have k_t4_z : v1.heap.size < z4.heap.size := Yk_4.lt; have k_t4_c0 : z4.cell? ⟨v1.heap.size, 0, none⟩ = some (.bool B3) := (Yk_4.cell 0).trans rfl; have k_t4_f0 := Yk_4.frozen 0))
  go_wp2_with fail
  refine (H4.out _).mono ?_; rintro e v5 ⟨rfl, hb5⟩
  have st5 := bl_step (Below.refl _ _) hb5
  have bl5 := bl_step bl4 st5
  clear a_t4_z a_t4_c0 a_t4_f0 a_t4_c1 a_t4_f1
  have Ba_5 := Ya_4.below st5
  clear c_t4_z c_t4_c0 c_t4_f0 c_t4_c1 c_t4_f1
  have Bc_5 := Yc_4.below st5
  clear r_t4_z r_t4_c0 r_t4_f0 r_t4_c1 r_t4_f1
  have Br_5 := Yr_4.below st5
  clear k_t4_z k_t4_c0 k_t4_f0
  have Bk_5 := Yk_4.below st5
  have a_5_z : w.heap.size < v5.heap.size := Ba_5.lt
  have a_5_c0 : v5.cell? ⟨w.heap.size, 0, none⟩ = some (.int .i64 a) := (Ba_5.cell 0).trans rfl
  have a_5_f0 := Ba_5.frozen 0
  have a_5_c1 : v5.cell? ⟨w.heap.size, 1, none⟩ = some (.int .i64 b) := (Ba_5.cell 1).trans rfl
  have a_5_f1 := Ba_5.frozen 1
  have c_5_z : w.heap.size + 1 < v5.heap.size := Bc_5.lt
  have c_5_c0 : v5.cell? ⟨w.heap.size + 1, 0, none⟩ = some (.int .i64 c) := (Bc_5.cell 0).trans rfl
  have c_5_f0 := Bc_5.frozen 0
  have c_5_c1 : v5.cell? ⟨w.heap.size + 1, 1, none⟩ = some (.int .i64 d) := (Bc_5.cell 1).trans rfl
  have c_5_f1 := Bc_5.frozen 1
  have r_5_z : w.heap.size + 1 + 1 < v5.heap.size := Br_5.lt
  have r_5_c0 : v5.cell? ⟨w.heap.size + 1 + 1, 0, none⟩ = some (.int .i64 0) := (Br_5.cell 0).trans rfl
  have r_5_f0 := Br_5.frozen 0
  have r_5_c1 : v5.cell? ⟨w.heap.size + 1 + 1, 1, none⟩ = some (.int .i64 0) := (Br_5.cell 1).trans rfl
  have r_5_f1 := Br_5.frozen 1
  have k_5_z : v1.heap.size < v5.heap.size := Bk_5.lt
  have k_5_c0 : v5.cell? ⟨v1.heap.size, 0, none⟩ = some (.bool B3) := (Bk_5.cell 0).trans rfl
  have k_5_f0 := Bk_5.frozen 0
  go_wp2_with fail
  refine (told_c _ _ _ _ _ _ Bk_5 hB4.out).mono ?_; rintro e z5 ⟨rfl, ht5⟩
  have nt_a_5 : w.heap.size ≠ v1.heap.size := (by have := Ba_1.lt; omega)
  have Ya_5 := ht5.keep _ _ _ nt_a_5 Ba_5
  have nt_c_5 : w.heap.size + 1 ≠ v1.heap.size := (by have := Bc_1.lt; omega)
  have Yc_5 := ht5.keep _ _ _ nt_c_5 Bc_5
  have nt_r_5 : w.heap.size + 1 + 1 ≠ v1.heap.size := (by have := Br_1.lt; omega)
  have Yr_5 := ht5.keep _ _ _ nt_r_5 Br_5
  have Yk_5 := ht5.own
  have bl5 := ht5.below _ bl5 (by have := bl1.size; omega)
  clear a_5_z a_5_c0 a_5_f0 a_5_c1 a_5_f1
  clear c_5_z c_5_c0 c_5_f0 c_5_c1 c_5_f1
  clear r_5_z r_5_c0 r_5_f0 r_5_c1 r_5_f1
  clear k_5_z k_5_c0 k_5_f0
  have a_t5_z : w.heap.size < z5.heap.size := Ya_5.lt
  have a_t5_c0 : z5.cell? ⟨w.heap.size, 0, none⟩ = some (.int .i64 a) := (Ya_5.cell 0).trans rfl
  have a_t5_f0 := Ya_5.frozen 0
  have a_t5_c1 : z5.cell? ⟨w.heap.size, 1, none⟩ = some (.int .i64 b) := (Ya_5.cell 1).trans rfl
  have a_t5_f1 := Ya_5.frozen 1
  have c_t5_z : w.heap.size + 1 < z5.heap.size := Yc_5.lt
  have c_t5_c0 : z5.cell? ⟨w.heap.size + 1, 0, none⟩ = some (.int .i64 c) := (Yc_5.cell 0).trans rfl
  have c_t5_f0 := Yc_5.frozen 0
  have c_t5_c1 : z5.cell? ⟨w.heap.size + 1, 1, none⟩ = some (.int .i64 d) := (Yc_5.cell 1).trans rfl
  have c_t5_f1 := Yc_5.frozen 1
  have r_t5_z : w.heap.size + 1 + 1 < z5.heap.size := Yr_5.lt
  have r_t5_c0 : z5.cell? ⟨w.heap.size + 1 + 1, 0, none⟩ = some (.int .i64 0) := (Yr_5.cell 0).trans rfl
  have r_t5_f0 := Yr_5.frozen 0
  have r_t5_c1 : z5.cell? ⟨w.heap.size + 1 + 1, 1, none⟩ = some (.int .i64 0) := (Yr_5.cell 1).trans rfl
  have r_t5_f1 := Yr_5.frozen 1
  have k_t5_z : v1.heap.size < z5.heap.size := Yk_5.lt
  have k_t5_c0 : z5.cell? ⟨v1.heap.size, 0, none⟩ = some (.bool B4) := (Yk_5.cell 0).trans rfl
  have k_t5_f0 := Yk_5.frozen 0
  go_wp2_with fail
  go_region_held3 (fun w' => w'.cell? ⟨w.heap.size, 0, none⟩ = some (.int .i64 a) ∧ w'.cell? ⟨w.heap.size, 1, none⟩ = some (.int .i64 b) ∧ w'.cell? ⟨w.heap.size + 1, 0, none⟩ = some (.int .i64 c) ∧ w'.cell? ⟨w.heap.size + 1, 1, none⟩ = some (.int .i64 d)) (go_keep) (first | (go_at_call 56; with_reducible refine (H5.out _).mono ?_; rintro e v6 ⟨rfl, hb6⟩; have st6 := bl_step (bl_drew (Below.refl _ _)) hb6; have bl6 := bl_step bl5 st6; clear a_t5_z a_t5_c0 a_t5_f0 a_t5_c1 a_t5_f1; have Ba_6 := Ya_5.below st6; clear c_t5_z c_t5_c0 c_t5_f0 c_t5_c1 c_t5_f1; have Bc_6 := Yc_5.below st6; clear r_t5_z r_t5_c0 r_t5_f0 r_t5_c1 r_t5_f1; have Br_6 := Yr_5.below st6; clear k_t5_z k_t5_c0 k_t5_f0; have Bk_6 := Yk_5.below st6; have a_6_z : w.heap.size < v6.heap.size := Ba_6.lt; have a_6_c0 : v6.cell? ⟨w.heap.size, 0, none⟩ = some (.int .i64 a) := (Ba_6.cell 0).trans rfl; have a_6_f0 := Ba_6.frozen 0; have a_6_c1 : v6.cell? ⟨w.heap.size, 1, none⟩ = some (.int .i64 b) := (Ba_6.cell 1).trans rfl; have a_6_f1 := Ba_6.frozen 1; have c_6_z : w.heap.size + 1 < v6.heap.size := Bc_6.lt; have c_6_c0 : v6.cell? ⟨w.heap.size + 1, 0, none⟩ = some (.int .i64 c) := (Bc_6.cell 0).trans rfl; have c_6_f0 := Bc_6.frozen 0; have c_6_c1 : v6.cell? ⟨w.heap.size + 1, 1, none⟩ = some (.int .i64 d) := (Bc_6.cell 1).trans rfl; have c_6_f1 := Bc_6.frozen 1; have r_6_z : w.heap.size + 1 + 1 < v6.heap.size := Br_6.lt; have r_6_c0 : v6.cell? ⟨w.heap.size + 1 + 1, 0, none⟩ = some (.int .i64 0) := (Br_6.cell 0).trans rfl; have r_6_f0 := Br_6.frozen 0; have r_6_c1 : v6.cell? ⟨w.heap.size + 1 + 1, 1, none⟩ = some (.int .i64 0) := (Br_6.cell 1).trans rfl; have r_6_f1 := Br_6.frozen 1; have k_6_z : v1.heap.size < v6.heap.size := Bk_6.lt; have k_6_c0 : v6.cell? ⟨v1.heap.size, 0, none⟩ = some (.bool B4) := (Bk_6.cell 0).trans rfl; have k_6_f0 := Bk_6.frozen 0) | (go_at_call 55; with_reducible refine (told_c _ _ _ _ _ _ Bk_6 hE.out).mono ?_; rintro e z6 ⟨rfl, ht6⟩; have nt_a_6 : w.heap.size ≠ v1.heap.size := (by have := Ba_1.lt; omega); have Ya_6 := ht6.keep _ _ _ nt_a_6 Ba_6; have nt_c_6 : w.heap.size + 1 ≠ v1.heap.size := (by have := Bc_1.lt; omega); have Yc_6 := ht6.keep _ _ _ nt_c_6 Bc_6; have nt_r_6 : w.heap.size + 1 + 1 ≠ v1.heap.size := (by have := Br_1.lt; omega); have Yr_6 := ht6.keep _ _ _ nt_r_6 Br_6; have Yk_6 := ht6.own; have bl6 := ht6.below _ bl6 (by have := bl1.size; omega); clear a_6_z a_6_c0 a_6_f0 a_6_c1 a_6_f1; clear c_6_z c_6_c0 c_6_f0 c_6_c1 c_6_f1; clear r_6_z r_6_c0 r_6_f0 r_6_c1 r_6_f1; clear k_6_z k_6_c0 k_6_f0; have a_t6_z : w.heap.size < z6.heap.size := Ya_6.lt; have a_t6_c0 : z6.cell? ⟨w.heap.size, 0, none⟩ = some (.int .i64 a) := (Ya_6.cell 0).trans rfl; have a_t6_f0 := Ya_6.frozen 0; have a_t6_c1 : z6.cell? ⟨w.heap.size, 1, none⟩ = some (.int .i64 b) := (Ya_6.cell 1).trans rfl; have a_t6_f1 := Ya_6.frozen 1; have c_t6_z : w.heap.size + 1 < z6.heap.size := Yc_6.lt; have c_t6_c0 : z6.cell? ⟨w.heap.size + 1, 0, none⟩ = some (.int .i64 c) := (Yc_6.cell 0).trans rfl; have c_t6_f0 := Yc_6.frozen 0; have c_t6_c1 : z6.cell? ⟨w.heap.size + 1, 1, none⟩ = some (.int .i64 d) := (Yc_6.cell 1).trans rfl; have c_t6_f1 := Yc_6.frozen 1; have r_t6_z : w.heap.size + 1 + 1 < z6.heap.size := Yr_6.lt; have r_t6_c0 : z6.cell? ⟨w.heap.size + 1 + 1, 0, none⟩ = some (.int .i64 0) := (Yr_6.cell 0).trans rfl; have r_t6_f0 := Yr_6.frozen 0; have r_t6_c1 : z6.cell? ⟨w.heap.size + 1 + 1, 1, none⟩ = some (.int .i64 0) := (Yr_6.cell 1).trans rfl; have r_t6_f1 := Yr_6.frozen 1; have k_t6_z : v1.heap.size < z6.heap.size := Yk_6.lt; have k_t6_c0 : z6.cell? ⟨v1.heap.size, 0, none⟩ = some (.bool true) := (Yk_6.cell 0).trans rfl; have k_t6_f0 := Yk_6.frozen 0))
  go_wp2
  refine bodyPost_ret (v := .tuple #[.agg #[.int .i64 0, .int .i64 0], .bool false]) (by simp [results, Tryd.results27, go_sem, r_t6_c0, r_t6_f0, r_t6_c1, r_t6_f1]) rfl ⟨rfl, ?_⟩
  (repeat (first | exact Below.refl _ _ | with_reducible assumption | refine bl_alloc ?_ _ | refine bl_set ?_ (by simp <;> omega) _ | refine bl_drew ?_ | refine bl_drewN ?_ _ | refine bl_step ?_ (by assumption)))
set_option maxHeartbeats 3200000 in
theorem radd_whole (a b c d g p q X Y S M N D : Int) (x2 x3 x4 x5 x6 B2 B3 B4 : Bool) (w : World) (HB : (Hid (∀ w, Calls Tryd.prog 49 #[.agg #[.int .i64 a, .int .i64 b], .agg #[.int .i64 c, .int .i64 d]] w fun e w' => e = .returned (.bool true) ∧ Below w.heap.size w w')))
    (hgz : (g == 0) = false) (hgn : ¬ g = 0) (wp : IntKind.i64.wrap p = p) (wq : IntKind.i64.wrap q = q) (hp : b.tdiv g = p) (hq : d.tdiv g = q) (p1 : -9223372036854775808 ≤ p) (p2 : p ≤ 9223372036854775807) (q1 : -9223372036854775808 ≤ q) (q2 : q ≤ 9223372036854775807)
    (hB1 : Hid ((false || !true) = false)) (hB2 : Hid ((false || !x2) = B2)) (hB3 : Hid ((B2 || !x3) = B3)) (hB4 : Hid ((B3 || !x4) = B4)) (hE : Hid ((B4 || !x5) = false))
    (H1 : (Hid (∀ w, Calls Tryd.prog 37 #[.int .i64 b, .int .i64 d] w fun e w' => e = .returned (.tuple #[.int .i64 g, .bool true]) ∧ Below w.heap.size w w')))
    (H2 : (Hid (∀ w, Calls Tryd.prog 56 #[.int .i64 a, .int .i64 q] w fun e w' => e = .returned (.tuple #[.int .i64 X, .bool x2]) ∧ Below w.heap.size w w')))
    (H3 : (Hid (∀ w, Calls Tryd.prog 56 #[.int .i64 c, .int .i64 p] w fun e w' => e = .returned (.tuple #[.int .i64 Y, .bool x3]) ∧ Below w.heap.size w w')))
    (H4 : (Hid (∀ w, Calls Tryd.prog 57 #[.int .i64 X, .int .i64 Y] w fun e w' => e = .returned (.tuple #[.int .i64 S, .bool x4]) ∧ Below w.heap.size w w')))
    (H5 : (Hid (∀ w, Calls Tryd.prog 56 #[.int .i64 b, .int .i64 q] w fun e w' => e = .returned (.tuple #[.int .i64 M, .bool x5]) ∧ Below w.heap.size w w')))
    (H6 : (Hid (∀ w, Calls Tryd.prog 11 #[.int .i64 S, .int .i64 M] w fun e w' => e = .returned (.tuple #[.agg #[.int .i64 N, .int .i64 D], .bool x6]) ∧ Below w.heap.size w w'))) :
    Calls Tryd.prog 27 #[.agg #[.int .i64 a, .int .i64 b], .agg #[.int .i64 c, .int .i64 d]] w fun e w' => e = .returned (.tuple #[.agg #[.int .i64 N, .int .i64 D], .bool x6]) ∧ Below w.heap.size w w' := by
  go_enter Tryd.func27, Tryd.ntmps27
  go_wp2_with fail
  refine (HB.out _).mono ?_; rintro e v1 ⟨rfl, hb1⟩
  have st1 := bl_step (bl_alloc (bl_alloc (bl_alloc (Below.refl _ _) _) _) _) hb1
  have bl1 := st1
  have Ba_1 : Blk v1 (w.heap.size) 23 #[.int .i64 a, .int .i64 b] := (((Blk.new _ _ _).alloc _).alloc _).below hb1
  have Bc_1 : Blk v1 (w.heap.size + 1) 23 #[.int .i64 c, .int .i64 d] := ((Blk.new' (by simp) _ _).alloc _).below hb1
  have Br_1 : Blk v1 (w.heap.size + 1 + 1) 23 #[.int .i64 0, .int .i64 0] := (Blk.new' (by simp) _ _).below hb1
  have a_1_z : w.heap.size < v1.heap.size := Ba_1.lt
  have a_1_c0 : v1.cell? ⟨w.heap.size, 0, none⟩ = some (.int .i64 a) := (Ba_1.cell 0).trans rfl
  have a_1_f0 := Ba_1.frozen 0
  have a_1_c1 : v1.cell? ⟨w.heap.size, 1, none⟩ = some (.int .i64 b) := (Ba_1.cell 1).trans rfl
  have a_1_f1 := Ba_1.frozen 1
  have c_1_z : w.heap.size + 1 < v1.heap.size := Bc_1.lt
  have c_1_c0 : v1.cell? ⟨w.heap.size + 1, 0, none⟩ = some (.int .i64 c) := (Bc_1.cell 0).trans rfl
  have c_1_f0 := Bc_1.frozen 0
  have c_1_c1 : v1.cell? ⟨w.heap.size + 1, 1, none⟩ = some (.int .i64 d) := (Bc_1.cell 1).trans rfl
  have c_1_f1 := Bc_1.frozen 1
  have r_1_z : w.heap.size + 1 + 1 < v1.heap.size := Br_1.lt
  have r_1_c0 : v1.cell? ⟨w.heap.size + 1 + 1, 0, none⟩ = some (.int .i64 0) := (Br_1.cell 0).trans rfl
  have r_1_f0 := Br_1.frozen 0
  have r_1_c1 : v1.cell? ⟨w.heap.size + 1 + 1, 1, none⟩ = some (.int .i64 0) := (Br_1.cell 1).trans rfl
  have r_1_f1 := Br_1.frozen 1
  go_wp2_with fail
  refine (H1.out _).mono ?_; rintro e v2 ⟨rfl, hb2⟩
  have st2 := bl_step (bl_alloc (Below.refl _ _) _) hb2
  have bl2 := bl_step bl1 st2
  have Bk_2 : Blk v2 (v1.heap.size) 76 #[.bool false] := (Blk.new _ _ _).below hb2
  clear a_1_z a_1_c0 a_1_f0 a_1_c1 a_1_f1
  have Ba_2 := Ba_1.below st2
  clear c_1_z c_1_c0 c_1_f0 c_1_c1 c_1_f1
  have Bc_2 := Bc_1.below st2
  clear r_1_z r_1_c0 r_1_f0 r_1_c1 r_1_f1
  have Br_2 := Br_1.below st2
  have a_2_z : w.heap.size < v2.heap.size := Ba_2.lt
  have a_2_c0 : v2.cell? ⟨w.heap.size, 0, none⟩ = some (.int .i64 a) := (Ba_2.cell 0).trans rfl
  have a_2_f0 := Ba_2.frozen 0
  have a_2_c1 : v2.cell? ⟨w.heap.size, 1, none⟩ = some (.int .i64 b) := (Ba_2.cell 1).trans rfl
  have a_2_f1 := Ba_2.frozen 1
  have c_2_z : w.heap.size + 1 < v2.heap.size := Bc_2.lt
  have c_2_c0 : v2.cell? ⟨w.heap.size + 1, 0, none⟩ = some (.int .i64 c) := (Bc_2.cell 0).trans rfl
  have c_2_f0 := Bc_2.frozen 0
  have c_2_c1 : v2.cell? ⟨w.heap.size + 1, 1, none⟩ = some (.int .i64 d) := (Bc_2.cell 1).trans rfl
  have c_2_f1 := Bc_2.frozen 1
  have r_2_z : w.heap.size + 1 + 1 < v2.heap.size := Br_2.lt
  have r_2_c0 : v2.cell? ⟨w.heap.size + 1 + 1, 0, none⟩ = some (.int .i64 0) := (Br_2.cell 0).trans rfl
  have r_2_f0 := Br_2.frozen 0
  have r_2_c1 : v2.cell? ⟨w.heap.size + 1 + 1, 1, none⟩ = some (.int .i64 0) := (Br_2.cell 1).trans rfl
  have r_2_f1 := Br_2.frozen 1
  have k_2_z : v1.heap.size < v2.heap.size := Bk_2.lt
  have k_2_c0 : v2.cell? ⟨v1.heap.size, 0, none⟩ = some (.bool false) := (Bk_2.cell 0).trans rfl
  have k_2_f0 := Bk_2.frozen 0
  go_wp2_with fail
  refine (told_c _ _ _ _ _ _ Bk_2 hB1.out).mono ?_; rintro e z2 ⟨rfl, ht2⟩
  have nt_a_2 : w.heap.size ≠ v1.heap.size := (by have := Ba_1.lt; omega)
  have Ya_2 := ht2.keep _ _ _ nt_a_2 Ba_2
  have nt_c_2 : w.heap.size + 1 ≠ v1.heap.size := (by have := Bc_1.lt; omega)
  have Yc_2 := ht2.keep _ _ _ nt_c_2 Bc_2
  have nt_r_2 : w.heap.size + 1 + 1 ≠ v1.heap.size := (by have := Br_1.lt; omega)
  have Yr_2 := ht2.keep _ _ _ nt_r_2 Br_2
  have Yk_2 := ht2.own
  have bl2 := ht2.below _ bl2 (by have := bl1.size; omega)
  clear a_2_z a_2_c0 a_2_f0 a_2_c1 a_2_f1
  clear c_2_z c_2_c0 c_2_f0 c_2_c1 c_2_f1
  clear r_2_z r_2_c0 r_2_f0 r_2_c1 r_2_f1
  clear k_2_z k_2_c0 k_2_f0
  have a_t2_z : w.heap.size < z2.heap.size := Ya_2.lt
  have a_t2_c0 : z2.cell? ⟨w.heap.size, 0, none⟩ = some (.int .i64 a) := (Ya_2.cell 0).trans rfl
  have a_t2_f0 := Ya_2.frozen 0
  have a_t2_c1 : z2.cell? ⟨w.heap.size, 1, none⟩ = some (.int .i64 b) := (Ya_2.cell 1).trans rfl
  have a_t2_f1 := Ya_2.frozen 1
  have c_t2_z : w.heap.size + 1 < z2.heap.size := Yc_2.lt
  have c_t2_c0 : z2.cell? ⟨w.heap.size + 1, 0, none⟩ = some (.int .i64 c) := (Yc_2.cell 0).trans rfl
  have c_t2_f0 := Yc_2.frozen 0
  have c_t2_c1 : z2.cell? ⟨w.heap.size + 1, 1, none⟩ = some (.int .i64 d) := (Yc_2.cell 1).trans rfl
  have c_t2_f1 := Yc_2.frozen 1
  have r_t2_z : w.heap.size + 1 + 1 < z2.heap.size := Yr_2.lt
  have r_t2_c0 : z2.cell? ⟨w.heap.size + 1 + 1, 0, none⟩ = some (.int .i64 0) := (Yr_2.cell 0).trans rfl
  have r_t2_f0 := Yr_2.frozen 0
  have r_t2_c1 : z2.cell? ⟨w.heap.size + 1 + 1, 1, none⟩ = some (.int .i64 0) := (Yr_2.cell 1).trans rfl
  have r_t2_f1 := Yr_2.frozen 1
  have k_t2_z : v1.heap.size < z2.heap.size := Yk_2.lt
  have k_t2_c0 : z2.cell? ⟨v1.heap.size, 0, none⟩ = some (.bool false) := (Yk_2.cell 0).trans rfl
  have k_t2_f0 := Yk_2.frozen 0
  go_wp2_with fail
  go_region_held3 (fun w' => w'.cell? ⟨w.heap.size, 0, none⟩ = some (.int .i64 a) ∧ w'.cell? ⟨w.heap.size, 1, none⟩ = some (.int .i64 b) ∧ w'.cell? ⟨w.heap.size + 1, 0, none⟩ = some (.int .i64 c) ∧ w'.cell? ⟨w.heap.size + 1, 1, none⟩ = some (.int .i64 d)) (go_keep) (first | (go_at_call 56; with_reducible refine (H2.out _).mono ?_; rintro e v3 ⟨rfl, hb3⟩; have st3 := bl_step (bl_drew (Below.refl _ _)) hb3; have bl3 := bl_step bl2 st3; clear a_t2_z a_t2_c0 a_t2_f0 a_t2_c1 a_t2_f1; have Ba_3 := Ya_2.below st3; clear c_t2_z c_t2_c0 c_t2_f0 c_t2_c1 c_t2_f1; have Bc_3 := Yc_2.below st3; clear r_t2_z r_t2_c0 r_t2_f0 r_t2_c1 r_t2_f1; have Br_3 := Yr_2.below st3; clear k_t2_z k_t2_c0 k_t2_f0; have Bk_3 := Yk_2.below st3; have a_3_z : w.heap.size < v3.heap.size := Ba_3.lt; have a_3_c0 : v3.cell? ⟨w.heap.size, 0, none⟩ = some (.int .i64 a) := (Ba_3.cell 0).trans rfl; have a_3_f0 := Ba_3.frozen 0; have a_3_c1 : v3.cell? ⟨w.heap.size, 1, none⟩ = some (.int .i64 b) := (Ba_3.cell 1).trans rfl; have a_3_f1 := Ba_3.frozen 1; have c_3_z : w.heap.size + 1 < v3.heap.size := Bc_3.lt; have c_3_c0 : v3.cell? ⟨w.heap.size + 1, 0, none⟩ = some (.int .i64 c) := (Bc_3.cell 0).trans rfl; have c_3_f0 := Bc_3.frozen 0; have c_3_c1 : v3.cell? ⟨w.heap.size + 1, 1, none⟩ = some (.int .i64 d) := (Bc_3.cell 1).trans rfl; have c_3_f1 := Bc_3.frozen 1; have r_3_z : w.heap.size + 1 + 1 < v3.heap.size := Br_3.lt; have r_3_c0 : v3.cell? ⟨w.heap.size + 1 + 1, 0, none⟩ = some (.int .i64 0) := (Br_3.cell 0).trans rfl; have r_3_f0 := Br_3.frozen 0; have r_3_c1 : v3.cell? ⟨w.heap.size + 1 + 1, 1, none⟩ = some (.int .i64 0) := (Br_3.cell 1).trans rfl; have r_3_f1 := Br_3.frozen 1; have k_3_z : v1.heap.size < v3.heap.size := Bk_3.lt; have k_3_c0 : v3.cell? ⟨v1.heap.size, 0, none⟩ = some (.bool false) := (Bk_3.cell 0).trans rfl; have k_3_f0 := Bk_3.frozen 0) | (go_at_call 55; with_reducible refine (told_c _ _ _ _ _ _ Bk_3 hB2.out).mono ?_; rintro e z3 ⟨rfl, ht3⟩; have nt_a_3 : w.heap.size ≠ v1.heap.size := (by have := Ba_1.lt; omega); have Ya_3 := ht3.keep _ _ _ nt_a_3 Ba_3; have nt_c_3 : w.heap.size + 1 ≠ v1.heap.size := (by have := Bc_1.lt; omega); have Yc_3 := ht3.keep _ _ _ nt_c_3 Bc_3; have nt_r_3 : w.heap.size + 1 + 1 ≠ v1.heap.size := (by have := Br_1.lt; omega); have Yr_3 := ht3.keep _ _ _ nt_r_3 Br_3; have Yk_3 := ht3.own; have bl3 := ht3.below _ bl3 (by have := bl1.size; omega); clear a_3_z a_3_c0 a_3_f0 a_3_c1 a_3_f1; clear c_3_z c_3_c0 c_3_f0 c_3_c1 c_3_f1; clear r_3_z r_3_c0 r_3_f0 r_3_c1 r_3_f1; clear k_3_z k_3_c0 k_3_f0; have a_t3_z : w.heap.size < z3.heap.size := Ya_3.lt; have a_t3_c0 : z3.cell? ⟨w.heap.size, 0, none⟩ = some (.int .i64 a) := (Ya_3.cell 0).trans rfl; have a_t3_f0 := Ya_3.frozen 0; have a_t3_c1 : z3.cell? ⟨w.heap.size, 1, none⟩ = some (.int .i64 b) := (Ya_3.cell 1).trans rfl; have a_t3_f1 := Ya_3.frozen 1; have c_t3_z : w.heap.size + 1 < z3.heap.size := Yc_3.lt; have c_t3_c0 : z3.cell? ⟨w.heap.size + 1, 0, none⟩ = some (.int .i64 c) := (Yc_3.cell 0).trans rfl; have c_t3_f0 := Yc_3.frozen 0; have c_t3_c1 : z3.cell? ⟨w.heap.size + 1, 1, none⟩ = some (.int .i64 d) := (Yc_3.cell 1).trans rfl; have c_t3_f1 := Yc_3.frozen 1; have r_t3_z : w.heap.size + 1 + 1 < z3.heap.size := Yr_3.lt; have r_t3_c0 : z3.cell? ⟨w.heap.size + 1 + 1, 0, none⟩ = some (.int .i64 0) := (Yr_3.cell 0).trans rfl; have r_t3_f0 := Yr_3.frozen 0; have r_t3_c1 : z3.cell? ⟨w.heap.size + 1 + 1, 1, none⟩ = some (.int .i64 0) := (Yr_3.cell 1).trans rfl; have r_t3_f1 := Yr_3.frozen 1; have k_t3_z : v1.heap.size < z3.heap.size := Yk_3.lt; have k_t3_c0 : z3.cell? ⟨v1.heap.size, 0, none⟩ = some (.bool B2) := (Yk_3.cell 0).trans rfl; have k_t3_f0 := Yk_3.frozen 0))
  go_wp2_with fail
  go_region_held3 (fun w' => w'.cell? ⟨w.heap.size, 0, none⟩ = some (.int .i64 a) ∧ w'.cell? ⟨w.heap.size, 1, none⟩ = some (.int .i64 b) ∧ w'.cell? ⟨w.heap.size + 1, 0, none⟩ = some (.int .i64 c) ∧ w'.cell? ⟨w.heap.size + 1, 1, none⟩ = some (.int .i64 d)) (go_keep) (first | (go_at_call 56; with_reducible refine (H3.out _).mono ?_; rintro e v4 ⟨rfl, hb4⟩; have st4 := bl_step (bl_drew (Below.refl _ _)) hb4; have bl4 := bl_step bl3 st4; clear a_t3_z a_t3_c0 a_t3_f0 a_t3_c1 a_t3_f1; have Ba_4 := Ya_3.below st4; clear c_t3_z c_t3_c0 c_t3_f0 c_t3_c1 c_t3_f1; have Bc_4 := Yc_3.below st4; clear r_t3_z r_t3_c0 r_t3_f0 r_t3_c1 r_t3_f1; have Br_4 := Yr_3.below st4; clear k_t3_z k_t3_c0 k_t3_f0; have Bk_4 := Yk_3.below st4; have a_4_z : w.heap.size < v4.heap.size := Ba_4.lt; have a_4_c0 : v4.cell? ⟨w.heap.size, 0, none⟩ = some (.int .i64 a) := (Ba_4.cell 0).trans rfl; have a_4_f0 := Ba_4.frozen 0; have a_4_c1 : v4.cell? ⟨w.heap.size, 1, none⟩ = some (.int .i64 b) := (Ba_4.cell 1).trans rfl; have a_4_f1 := Ba_4.frozen 1; have c_4_z : w.heap.size + 1 < v4.heap.size := Bc_4.lt; have c_4_c0 : v4.cell? ⟨w.heap.size + 1, 0, none⟩ = some (.int .i64 c) := (Bc_4.cell 0).trans rfl; have c_4_f0 := Bc_4.frozen 0; have c_4_c1 : v4.cell? ⟨w.heap.size + 1, 1, none⟩ = some (.int .i64 d) := (Bc_4.cell 1).trans rfl; have c_4_f1 := Bc_4.frozen 1; have r_4_z : w.heap.size + 1 + 1 < v4.heap.size := Br_4.lt; have r_4_c0 : v4.cell? ⟨w.heap.size + 1 + 1, 0, none⟩ = some (.int .i64 0) := (Br_4.cell 0).trans rfl; have r_4_f0 := Br_4.frozen 0; have r_4_c1 : v4.cell? ⟨w.heap.size + 1 + 1, 1, none⟩ = some (.int .i64 0) := (Br_4.cell 1).trans rfl; have r_4_f1 := Br_4.frozen 1; have k_4_z : v1.heap.size < v4.heap.size := Bk_4.lt; have k_4_c0 : v4.cell? ⟨v1.heap.size, 0, none⟩ = some (.bool B2) := (Bk_4.cell 0).trans rfl; have k_4_f0 := Bk_4.frozen 0) | (go_at_call 55; with_reducible refine (told_c _ _ _ _ _ _ Bk_4 hB3.out).mono ?_; rintro e z4 ⟨rfl, ht4⟩; have nt_a_4 : w.heap.size ≠ v1.heap.size := (by have := Ba_1.lt; omega); have Ya_4 := ht4.keep _ _ _ nt_a_4 Ba_4; have nt_c_4 : w.heap.size + 1 ≠ v1.heap.size := (by have := Bc_1.lt; omega); have Yc_4 := ht4.keep _ _ _ nt_c_4 Bc_4; have nt_r_4 : w.heap.size + 1 + 1 ≠ v1.heap.size := (by have := Br_1.lt; omega); have Yr_4 := ht4.keep _ _ _ nt_r_4 Br_4; have Yk_4 := ht4.own; have bl4 := ht4.below _ bl4 (by have := bl1.size; omega); clear a_4_z a_4_c0 a_4_f0 a_4_c1 a_4_f1; clear c_4_z c_4_c0 c_4_f0 c_4_c1 c_4_f1; clear r_4_z r_4_c0 r_4_f0 r_4_c1 r_4_f1; clear k_4_z k_4_c0 k_4_f0; have a_t4_z : w.heap.size < z4.heap.size := Ya_4.lt; have a_t4_c0 : z4.cell? ⟨w.heap.size, 0, none⟩ = some (.int .i64 a) := (Ya_4.cell 0).trans rfl; have a_t4_f0 := Ya_4.frozen 0; have a_t4_c1 : z4.cell? ⟨w.heap.size, 1, none⟩ = some (.int .i64 b) := (Ya_4.cell 1).trans rfl; have a_t4_f1 := Ya_4.frozen 1; have c_t4_z : w.heap.size + 1 < z4.heap.size := Yc_4.lt; have c_t4_c0 : z4.cell? ⟨w.heap.size + 1, 0, none⟩ = some (.int .i64 c) := (Yc_4.cell 0).trans rfl; have c_t4_f0 := Yc_4.frozen 0; have c_t4_c1 : z4.cell? ⟨w.heap.size + 1, 1, none⟩ = some (.int .i64 d) := (Yc_4.cell 1).trans rfl; have c_t4_f1 := Yc_4.frozen 1; have r_t4_z : w.heap.size + 1 + 1 < z4.heap.size := Yr_4.lt; have r_t4_c0 : z4.cell? ⟨w.heap.size + 1 + 1, 0, none⟩ = some (.int .i64 0) := (Yr_4.cell 0).trans rfl; have r_t4_f0 := Yr_4.frozen 0; have r_t4_c1 : z4.cell? ⟨w.heap.size + 1 + 1, 1, none⟩ = some (.int .i64 0) := (Yr_4.cell 1).trans rfl; have r_t4_f1 := Yr_4.frozen 1; have k_t4_z : v1.heap.size < z4.heap.size := Yk_4.lt; have k_t4_c0 : z4.cell? ⟨v1.heap.size, 0, none⟩ = some (.bool B3) := (Yk_4.cell 0).trans rfl; have k_t4_f0 := Yk_4.frozen 0))
  go_wp2_with fail
  refine (H4.out _).mono ?_; rintro e v5 ⟨rfl, hb5⟩
  have st5 := bl_step (Below.refl _ _) hb5
  have bl5 := bl_step bl4 st5
  clear a_t4_z a_t4_c0 a_t4_f0 a_t4_c1 a_t4_f1
  have Ba_5 := Ya_4.below st5
  clear c_t4_z c_t4_c0 c_t4_f0 c_t4_c1 c_t4_f1
  have Bc_5 := Yc_4.below st5
  clear r_t4_z r_t4_c0 r_t4_f0 r_t4_c1 r_t4_f1
  have Br_5 := Yr_4.below st5
  clear k_t4_z k_t4_c0 k_t4_f0
  have Bk_5 := Yk_4.below st5
  have a_5_z : w.heap.size < v5.heap.size := Ba_5.lt
  have a_5_c0 : v5.cell? ⟨w.heap.size, 0, none⟩ = some (.int .i64 a) := (Ba_5.cell 0).trans rfl
  have a_5_f0 := Ba_5.frozen 0
  have a_5_c1 : v5.cell? ⟨w.heap.size, 1, none⟩ = some (.int .i64 b) := (Ba_5.cell 1).trans rfl
  have a_5_f1 := Ba_5.frozen 1
  have c_5_z : w.heap.size + 1 < v5.heap.size := Bc_5.lt
  have c_5_c0 : v5.cell? ⟨w.heap.size + 1, 0, none⟩ = some (.int .i64 c) := (Bc_5.cell 0).trans rfl
  have c_5_f0 := Bc_5.frozen 0
  have c_5_c1 : v5.cell? ⟨w.heap.size + 1, 1, none⟩ = some (.int .i64 d) := (Bc_5.cell 1).trans rfl
  have c_5_f1 := Bc_5.frozen 1
  have r_5_z : w.heap.size + 1 + 1 < v5.heap.size := Br_5.lt
  have r_5_c0 : v5.cell? ⟨w.heap.size + 1 + 1, 0, none⟩ = some (.int .i64 0) := (Br_5.cell 0).trans rfl
  have r_5_f0 := Br_5.frozen 0
  have r_5_c1 : v5.cell? ⟨w.heap.size + 1 + 1, 1, none⟩ = some (.int .i64 0) := (Br_5.cell 1).trans rfl
  have r_5_f1 := Br_5.frozen 1
  have k_5_z : v1.heap.size < v5.heap.size := Bk_5.lt
  have k_5_c0 : v5.cell? ⟨v1.heap.size, 0, none⟩ = some (.bool B3) := (Bk_5.cell 0).trans rfl
  have k_5_f0 := Bk_5.frozen 0
  go_wp2_with fail
  refine (told_c _ _ _ _ _ _ Bk_5 hB4.out).mono ?_; rintro e z5 ⟨rfl, ht5⟩
  have nt_a_5 : w.heap.size ≠ v1.heap.size := (by have := Ba_1.lt; omega)
  have Ya_5 := ht5.keep _ _ _ nt_a_5 Ba_5
  have nt_c_5 : w.heap.size + 1 ≠ v1.heap.size := (by have := Bc_1.lt; omega)
  have Yc_5 := ht5.keep _ _ _ nt_c_5 Bc_5
  have nt_r_5 : w.heap.size + 1 + 1 ≠ v1.heap.size := (by have := Br_1.lt; omega)
  have Yr_5 := ht5.keep _ _ _ nt_r_5 Br_5
  have Yk_5 := ht5.own
  have bl5 := ht5.below _ bl5 (by have := bl1.size; omega)
  clear a_5_z a_5_c0 a_5_f0 a_5_c1 a_5_f1
  clear c_5_z c_5_c0 c_5_f0 c_5_c1 c_5_f1
  clear r_5_z r_5_c0 r_5_f0 r_5_c1 r_5_f1
  clear k_5_z k_5_c0 k_5_f0
  have a_t5_z : w.heap.size < z5.heap.size := Ya_5.lt
  have a_t5_c0 : z5.cell? ⟨w.heap.size, 0, none⟩ = some (.int .i64 a) := (Ya_5.cell 0).trans rfl
  have a_t5_f0 := Ya_5.frozen 0
  have a_t5_c1 : z5.cell? ⟨w.heap.size, 1, none⟩ = some (.int .i64 b) := (Ya_5.cell 1).trans rfl
  have a_t5_f1 := Ya_5.frozen 1
  have c_t5_z : w.heap.size + 1 < z5.heap.size := Yc_5.lt
  have c_t5_c0 : z5.cell? ⟨w.heap.size + 1, 0, none⟩ = some (.int .i64 c) := (Yc_5.cell 0).trans rfl
  have c_t5_f0 := Yc_5.frozen 0
  have c_t5_c1 : z5.cell? ⟨w.heap.size + 1, 1, none⟩ = some (.int .i64 d) := (Yc_5.cell 1).trans rfl
  have c_t5_f1 := Yc_5.frozen 1
  have r_t5_z : w.heap.size + 1 + 1 < z5.heap.size := Yr_5.lt
  have r_t5_c0 : z5.cell? ⟨w.heap.size + 1 + 1, 0, none⟩ = some (.int .i64 0) := (Yr_5.cell 0).trans rfl
  have r_t5_f0 := Yr_5.frozen 0
  have r_t5_c1 : z5.cell? ⟨w.heap.size + 1 + 1, 1, none⟩ = some (.int .i64 0) := (Yr_5.cell 1).trans rfl
  have r_t5_f1 := Yr_5.frozen 1
  have k_t5_z : v1.heap.size < z5.heap.size := Yk_5.lt
  have k_t5_c0 : z5.cell? ⟨v1.heap.size, 0, none⟩ = some (.bool B4) := (Yk_5.cell 0).trans rfl
  have k_t5_f0 := Yk_5.frozen 0
  go_wp2_with fail
  go_region_held3 (fun w' => w'.cell? ⟨w.heap.size, 0, none⟩ = some (.int .i64 a) ∧ w'.cell? ⟨w.heap.size, 1, none⟩ = some (.int .i64 b) ∧ w'.cell? ⟨w.heap.size + 1, 0, none⟩ = some (.int .i64 c) ∧ w'.cell? ⟨w.heap.size + 1, 1, none⟩ = some (.int .i64 d)) (go_keep) (first | (go_at_call 56; with_reducible refine (H5.out _).mono ?_; rintro e v6 ⟨rfl, hb6⟩; have st6 := bl_step (bl_drew (Below.refl _ _)) hb6; have bl6 := bl_step bl5 st6; clear a_t5_z a_t5_c0 a_t5_f0 a_t5_c1 a_t5_f1; have Ba_6 := Ya_5.below st6; clear c_t5_z c_t5_c0 c_t5_f0 c_t5_c1 c_t5_f1; have Bc_6 := Yc_5.below st6; clear r_t5_z r_t5_c0 r_t5_f0 r_t5_c1 r_t5_f1; have Br_6 := Yr_5.below st6; clear k_t5_z k_t5_c0 k_t5_f0; have Bk_6 := Yk_5.below st6; have a_6_z : w.heap.size < v6.heap.size := Ba_6.lt; have a_6_c0 : v6.cell? ⟨w.heap.size, 0, none⟩ = some (.int .i64 a) := (Ba_6.cell 0).trans rfl; have a_6_f0 := Ba_6.frozen 0; have a_6_c1 : v6.cell? ⟨w.heap.size, 1, none⟩ = some (.int .i64 b) := (Ba_6.cell 1).trans rfl; have a_6_f1 := Ba_6.frozen 1; have c_6_z : w.heap.size + 1 < v6.heap.size := Bc_6.lt; have c_6_c0 : v6.cell? ⟨w.heap.size + 1, 0, none⟩ = some (.int .i64 c) := (Bc_6.cell 0).trans rfl; have c_6_f0 := Bc_6.frozen 0; have c_6_c1 : v6.cell? ⟨w.heap.size + 1, 1, none⟩ = some (.int .i64 d) := (Bc_6.cell 1).trans rfl; have c_6_f1 := Bc_6.frozen 1; have r_6_z : w.heap.size + 1 + 1 < v6.heap.size := Br_6.lt; have r_6_c0 : v6.cell? ⟨w.heap.size + 1 + 1, 0, none⟩ = some (.int .i64 0) := (Br_6.cell 0).trans rfl; have r_6_f0 := Br_6.frozen 0; have r_6_c1 : v6.cell? ⟨w.heap.size + 1 + 1, 1, none⟩ = some (.int .i64 0) := (Br_6.cell 1).trans rfl; have r_6_f1 := Br_6.frozen 1; have k_6_z : v1.heap.size < v6.heap.size := Bk_6.lt; have k_6_c0 : v6.cell? ⟨v1.heap.size, 0, none⟩ = some (.bool B4) := (Bk_6.cell 0).trans rfl; have k_6_f0 := Bk_6.frozen 0) | (go_at_call 55; with_reducible refine (told_c _ _ _ _ _ _ Bk_6 hE.out).mono ?_; rintro e z6 ⟨rfl, ht6⟩; have nt_a_6 : w.heap.size ≠ v1.heap.size := (by have := Ba_1.lt; omega); have Ya_6 := ht6.keep _ _ _ nt_a_6 Ba_6; have nt_c_6 : w.heap.size + 1 ≠ v1.heap.size := (by have := Bc_1.lt; omega); have Yc_6 := ht6.keep _ _ _ nt_c_6 Bc_6; have nt_r_6 : w.heap.size + 1 + 1 ≠ v1.heap.size := (by have := Br_1.lt; omega); have Yr_6 := ht6.keep _ _ _ nt_r_6 Br_6; have Yk_6 := ht6.own; have bl6 := ht6.below _ bl6 (by have := bl1.size; omega); clear a_6_z a_6_c0 a_6_f0 a_6_c1 a_6_f1; clear c_6_z c_6_c0 c_6_f0 c_6_c1 c_6_f1; clear r_6_z r_6_c0 r_6_f0 r_6_c1 r_6_f1; clear k_6_z k_6_c0 k_6_f0; have a_t6_z : w.heap.size < z6.heap.size := Ya_6.lt; have a_t6_c0 : z6.cell? ⟨w.heap.size, 0, none⟩ = some (.int .i64 a) := (Ya_6.cell 0).trans rfl; have a_t6_f0 := Ya_6.frozen 0; have a_t6_c1 : z6.cell? ⟨w.heap.size, 1, none⟩ = some (.int .i64 b) := (Ya_6.cell 1).trans rfl; have a_t6_f1 := Ya_6.frozen 1; have c_t6_z : w.heap.size + 1 < z6.heap.size := Yc_6.lt; have c_t6_c0 : z6.cell? ⟨w.heap.size + 1, 0, none⟩ = some (.int .i64 c) := (Yc_6.cell 0).trans rfl; have c_t6_f0 := Yc_6.frozen 0; have c_t6_c1 : z6.cell? ⟨w.heap.size + 1, 1, none⟩ = some (.int .i64 d) := (Yc_6.cell 1).trans rfl; have c_t6_f1 := Yc_6.frozen 1; have r_t6_z : w.heap.size + 1 + 1 < z6.heap.size := Yr_6.lt; have r_t6_c0 : z6.cell? ⟨w.heap.size + 1 + 1, 0, none⟩ = some (.int .i64 0) := (Yr_6.cell 0).trans rfl; have r_t6_f0 := Yr_6.frozen 0; have r_t6_c1 : z6.cell? ⟨w.heap.size + 1 + 1, 1, none⟩ = some (.int .i64 0) := (Yr_6.cell 1).trans rfl; have r_t6_f1 := Yr_6.frozen 1; have k_t6_z : v1.heap.size < z6.heap.size := Yk_6.lt; have k_t6_c0 : z6.cell? ⟨v1.heap.size, 0, none⟩ = some (.bool false) := (Yk_6.cell 0).trans rfl; have k_t6_f0 := Yk_6.frozen 0))
  go_wp2_with fail
  refine (H6.out _).mono ?_; rintro e v7 ⟨rfl, hb7⟩
  have st7 := bl_step (Below.refl _ _) hb7
  have bl7 := bl_step bl6 st7
  clear a_t6_z a_t6_c0 a_t6_f0 a_t6_c1 a_t6_f1
  have Ba_7 := Ya_6.below st7
  clear c_t6_z c_t6_c0 c_t6_f0 c_t6_c1 c_t6_f1
  have Bc_7 := Yc_6.below st7
  clear r_t6_z r_t6_c0 r_t6_f0 r_t6_c1 r_t6_f1
  have Br_7 := Yr_6.below st7
  clear k_t6_z k_t6_c0 k_t6_f0
  have Bk_7 := Yk_6.below st7
  have a_7_z : w.heap.size < v7.heap.size := Ba_7.lt
  have a_7_c0 : v7.cell? ⟨w.heap.size, 0, none⟩ = some (.int .i64 a) := (Ba_7.cell 0).trans rfl
  have a_7_f0 := Ba_7.frozen 0
  have a_7_c1 : v7.cell? ⟨w.heap.size, 1, none⟩ = some (.int .i64 b) := (Ba_7.cell 1).trans rfl
  have a_7_f1 := Ba_7.frozen 1
  have c_7_z : w.heap.size + 1 < v7.heap.size := Bc_7.lt
  have c_7_c0 : v7.cell? ⟨w.heap.size + 1, 0, none⟩ = some (.int .i64 c) := (Bc_7.cell 0).trans rfl
  have c_7_f0 := Bc_7.frozen 0
  have c_7_c1 : v7.cell? ⟨w.heap.size + 1, 1, none⟩ = some (.int .i64 d) := (Bc_7.cell 1).trans rfl
  have c_7_f1 := Bc_7.frozen 1
  have r_7_z : w.heap.size + 1 + 1 < v7.heap.size := Br_7.lt
  have r_7_c0 : v7.cell? ⟨w.heap.size + 1 + 1, 0, none⟩ = some (.int .i64 0) := (Br_7.cell 0).trans rfl
  have r_7_f0 := Br_7.frozen 0
  have r_7_c1 : v7.cell? ⟨w.heap.size + 1 + 1, 1, none⟩ = some (.int .i64 0) := (Br_7.cell 1).trans rfl
  have r_7_f1 := Br_7.frozen 1
  have k_7_z : v1.heap.size < v7.heap.size := Bk_7.lt
  have k_7_c0 : v7.cell? ⟨v1.heap.size, 0, none⟩ = some (.bool false) := (Bk_7.cell 0).trans rfl
  have k_7_f0 := Bk_7.frozen 0
  go_wp2
  refine bodyPost_ret (v := .tuple #[.agg #[.int .i64 N, .int .i64 D], .bool x6]) (by simp [results, Tryd.results27, go_sem, r_7_c0, r_7_f0, r_7_c1, r_7_f1]) rfl ⟨rfl, ?_⟩
  (repeat (first | exact Below.refl _ _ | with_reducible assumption | refine bl_alloc ?_ _ | refine bl_set ?_ (by simp <;> omega) _ | refine bl_drew ?_ | refine bl_drewN ?_ _ | refine bl_step ?_ (by assumption)))
set_option maxHeartbeats 3200000 in
theorem rmul_broken (a b c d g h p q r s S M N D : Int) (x2 x3 x4 x5 x6 B4 : Bool) (w : World) (HB : (Hid (∀ w, Calls Tryd.prog 49 #[.agg #[.int .i64 a, .int .i64 b], .agg #[.int .i64 c, .int .i64 d]] w fun e w' => e = .returned (.bool true) ∧ Below w.heap.size w w')))
    (hgz : (g == 0) = false) (hhz : (h == 0) = false) (hgn : ¬ g = 0) (hhn : ¬ h = 0) (wp : IntKind.i64.wrap p = p) (wq : IntKind.i64.wrap q = q) (wr : IntKind.i64.wrap r = r) (ws : IntKind.i64.wrap s = s) (hp : a.tdiv g = p) (hq : c.tdiv h = q) (hr : b.tdiv h = r) (hs : d.tdiv g = s)
    (p1 : -9223372036854775808 ≤ p) (p2 : p ≤ 9223372036854775807) (q1 : -9223372036854775808 ≤ q) (q2 : q ≤ 9223372036854775807) (r1 : -9223372036854775808 ≤ r) (r2 : r ≤ 9223372036854775807) (s1 : -9223372036854775808 ≤ s) (s2 : s ≤ 9223372036854775807)
    (hB1 : Hid ((false || !true) = false)) (hB2 : Hid ((false || !true) = false)) (hB4 : Hid ((false || !x4) = B4)) (hE : Hid ((B4 || !x5) = true))
    (H1 : (Hid (∀ w, Calls Tryd.prog 37 #[.int .i64 a, .int .i64 d] w fun e w' => e = .returned (.tuple #[.int .i64 g, .bool true]) ∧ Below w.heap.size w w')))
    (H2 : (Hid (∀ w, Calls Tryd.prog 37 #[.int .i64 c, .int .i64 b] w fun e w' => e = .returned (.tuple #[.int .i64 h, .bool true]) ∧ Below w.heap.size w w')))
    (H4 : (Hid (∀ w, Calls Tryd.prog 56 #[.int .i64 p, .int .i64 q] w fun e w' => e = .returned (.tuple #[.int .i64 S, .bool x4]) ∧ Below w.heap.size w w')))
    (H5 : (Hid (∀ w, Calls Tryd.prog 56 #[.int .i64 r, .int .i64 s] w fun e w' => e = .returned (.tuple #[.int .i64 M, .bool x5]) ∧ Below w.heap.size w w')))
    (H6 : (Hid (∀ w, Calls Tryd.prog 11 #[.int .i64 S, .int .i64 M] w fun e w' => e = .returned (.tuple #[.agg #[.int .i64 N, .int .i64 D], .bool x6]) ∧ Below w.heap.size w w'))) :
    Calls Tryd.prog 29 #[.agg #[.int .i64 a, .int .i64 b], .agg #[.int .i64 c, .int .i64 d]] w fun e w' => e = .returned (.tuple #[.agg #[.int .i64 0, .int .i64 0], .bool false]) ∧ Below w.heap.size w w' := by
  go_enter Tryd.func29, Tryd.ntmps29
  go_wp2_with fail
  refine (HB.out _).mono ?_; rintro e v1 ⟨rfl, hb1⟩
  have st1 := bl_step (bl_alloc (bl_alloc (bl_alloc (Below.refl _ _) _) _) _) hb1
  have bl1 := st1
  have Ba_1 : Blk v1 (w.heap.size) 23 #[.int .i64 a, .int .i64 b] := (((Blk.new _ _ _).alloc _).alloc _).below hb1
  have Bc_1 : Blk v1 (w.heap.size + 1) 23 #[.int .i64 c, .int .i64 d] := ((Blk.new' (by simp) _ _).alloc _).below hb1
  have Br_1 : Blk v1 (w.heap.size + 1 + 1) 23 #[.int .i64 0, .int .i64 0] := (Blk.new' (by simp) _ _).below hb1
  have a_1_z : w.heap.size < v1.heap.size := Ba_1.lt
  have a_1_c0 : v1.cell? ⟨w.heap.size, 0, none⟩ = some (.int .i64 a) := (Ba_1.cell 0).trans rfl
  have a_1_f0 := Ba_1.frozen 0
  have a_1_c1 : v1.cell? ⟨w.heap.size, 1, none⟩ = some (.int .i64 b) := (Ba_1.cell 1).trans rfl
  have a_1_f1 := Ba_1.frozen 1
  have c_1_z : w.heap.size + 1 < v1.heap.size := Bc_1.lt
  have c_1_c0 : v1.cell? ⟨w.heap.size + 1, 0, none⟩ = some (.int .i64 c) := (Bc_1.cell 0).trans rfl
  have c_1_f0 := Bc_1.frozen 0
  have c_1_c1 : v1.cell? ⟨w.heap.size + 1, 1, none⟩ = some (.int .i64 d) := (Bc_1.cell 1).trans rfl
  have c_1_f1 := Bc_1.frozen 1
  have r_1_z : w.heap.size + 1 + 1 < v1.heap.size := Br_1.lt
  have r_1_c0 : v1.cell? ⟨w.heap.size + 1 + 1, 0, none⟩ = some (.int .i64 0) := (Br_1.cell 0).trans rfl
  have r_1_f0 := Br_1.frozen 0
  have r_1_c1 : v1.cell? ⟨w.heap.size + 1 + 1, 1, none⟩ = some (.int .i64 0) := (Br_1.cell 1).trans rfl
  have r_1_f1 := Br_1.frozen 1
  go_wp2_with fail
  refine (H1.out _).mono ?_; rintro e v2 ⟨rfl, hb2⟩
  have st2 := bl_step (bl_alloc (Below.refl _ _) _) hb2
  have bl2 := bl_step bl1 st2
  have Bk_2 : Blk v2 (v1.heap.size) 76 #[.bool false] := (Blk.new _ _ _).below hb2
  clear a_1_z a_1_c0 a_1_f0 a_1_c1 a_1_f1
  have Ba_2 := Ba_1.below st2
  clear c_1_z c_1_c0 c_1_f0 c_1_c1 c_1_f1
  have Bc_2 := Bc_1.below st2
  clear r_1_z r_1_c0 r_1_f0 r_1_c1 r_1_f1
  have Br_2 := Br_1.below st2
  have a_2_z : w.heap.size < v2.heap.size := Ba_2.lt
  have a_2_c0 : v2.cell? ⟨w.heap.size, 0, none⟩ = some (.int .i64 a) := (Ba_2.cell 0).trans rfl
  have a_2_f0 := Ba_2.frozen 0
  have a_2_c1 : v2.cell? ⟨w.heap.size, 1, none⟩ = some (.int .i64 b) := (Ba_2.cell 1).trans rfl
  have a_2_f1 := Ba_2.frozen 1
  have c_2_z : w.heap.size + 1 < v2.heap.size := Bc_2.lt
  have c_2_c0 : v2.cell? ⟨w.heap.size + 1, 0, none⟩ = some (.int .i64 c) := (Bc_2.cell 0).trans rfl
  have c_2_f0 := Bc_2.frozen 0
  have c_2_c1 : v2.cell? ⟨w.heap.size + 1, 1, none⟩ = some (.int .i64 d) := (Bc_2.cell 1).trans rfl
  have c_2_f1 := Bc_2.frozen 1
  have r_2_z : w.heap.size + 1 + 1 < v2.heap.size := Br_2.lt
  have r_2_c0 : v2.cell? ⟨w.heap.size + 1 + 1, 0, none⟩ = some (.int .i64 0) := (Br_2.cell 0).trans rfl
  have r_2_f0 := Br_2.frozen 0
  have r_2_c1 : v2.cell? ⟨w.heap.size + 1 + 1, 1, none⟩ = some (.int .i64 0) := (Br_2.cell 1).trans rfl
  have r_2_f1 := Br_2.frozen 1
  have k_2_z : v1.heap.size < v2.heap.size := Bk_2.lt
  have k_2_c0 : v2.cell? ⟨v1.heap.size, 0, none⟩ = some (.bool false) := (Bk_2.cell 0).trans rfl
  have k_2_f0 := Bk_2.frozen 0
  go_wp2_with fail
  refine (told_c _ _ _ _ _ _ Bk_2 hB1.out).mono ?_; rintro e z2 ⟨rfl, ht2⟩
  have nt_a_2 : w.heap.size ≠ v1.heap.size := (by have := Ba_1.lt; omega)
  have Ya_2 := ht2.keep _ _ _ nt_a_2 Ba_2
  have nt_c_2 : w.heap.size + 1 ≠ v1.heap.size := (by have := Bc_1.lt; omega)
  have Yc_2 := ht2.keep _ _ _ nt_c_2 Bc_2
  have nt_r_2 : w.heap.size + 1 + 1 ≠ v1.heap.size := (by have := Br_1.lt; omega)
  have Yr_2 := ht2.keep _ _ _ nt_r_2 Br_2
  have Yk_2 := ht2.own
  have bl2 := ht2.below _ bl2 (by have := bl1.size; omega)
  clear a_2_z a_2_c0 a_2_f0 a_2_c1 a_2_f1
  clear c_2_z c_2_c0 c_2_f0 c_2_c1 c_2_f1
  clear r_2_z r_2_c0 r_2_f0 r_2_c1 r_2_f1
  clear k_2_z k_2_c0 k_2_f0
  have a_t2_z : w.heap.size < z2.heap.size := Ya_2.lt
  have a_t2_c0 : z2.cell? ⟨w.heap.size, 0, none⟩ = some (.int .i64 a) := (Ya_2.cell 0).trans rfl
  have a_t2_f0 := Ya_2.frozen 0
  have a_t2_c1 : z2.cell? ⟨w.heap.size, 1, none⟩ = some (.int .i64 b) := (Ya_2.cell 1).trans rfl
  have a_t2_f1 := Ya_2.frozen 1
  have c_t2_z : w.heap.size + 1 < z2.heap.size := Yc_2.lt
  have c_t2_c0 : z2.cell? ⟨w.heap.size + 1, 0, none⟩ = some (.int .i64 c) := (Yc_2.cell 0).trans rfl
  have c_t2_f0 := Yc_2.frozen 0
  have c_t2_c1 : z2.cell? ⟨w.heap.size + 1, 1, none⟩ = some (.int .i64 d) := (Yc_2.cell 1).trans rfl
  have c_t2_f1 := Yc_2.frozen 1
  have r_t2_z : w.heap.size + 1 + 1 < z2.heap.size := Yr_2.lt
  have r_t2_c0 : z2.cell? ⟨w.heap.size + 1 + 1, 0, none⟩ = some (.int .i64 0) := (Yr_2.cell 0).trans rfl
  have r_t2_f0 := Yr_2.frozen 0
  have r_t2_c1 : z2.cell? ⟨w.heap.size + 1 + 1, 1, none⟩ = some (.int .i64 0) := (Yr_2.cell 1).trans rfl
  have r_t2_f1 := Yr_2.frozen 1
  have k_t2_z : v1.heap.size < z2.heap.size := Yk_2.lt
  have k_t2_c0 : z2.cell? ⟨v1.heap.size, 0, none⟩ = some (.bool false) := (Yk_2.cell 0).trans rfl
  have k_t2_f0 := Yk_2.frozen 0
  go_wp2_with fail
  refine (H2.out _).mono ?_; rintro e v3 ⟨rfl, hb3⟩
  have st3 := bl_step (Below.refl _ _) hb3
  have bl3 := bl_step bl2 st3
  clear a_t2_z a_t2_c0 a_t2_f0 a_t2_c1 a_t2_f1
  have Ba_3 := Ya_2.below st3
  clear c_t2_z c_t2_c0 c_t2_f0 c_t2_c1 c_t2_f1
  have Bc_3 := Yc_2.below st3
  clear r_t2_z r_t2_c0 r_t2_f0 r_t2_c1 r_t2_f1
  have Br_3 := Yr_2.below st3
  clear k_t2_z k_t2_c0 k_t2_f0
  have Bk_3 := Yk_2.below st3
  have a_3_z : w.heap.size < v3.heap.size := Ba_3.lt
  have a_3_c0 : v3.cell? ⟨w.heap.size, 0, none⟩ = some (.int .i64 a) := (Ba_3.cell 0).trans rfl
  have a_3_f0 := Ba_3.frozen 0
  have a_3_c1 : v3.cell? ⟨w.heap.size, 1, none⟩ = some (.int .i64 b) := (Ba_3.cell 1).trans rfl
  have a_3_f1 := Ba_3.frozen 1
  have c_3_z : w.heap.size + 1 < v3.heap.size := Bc_3.lt
  have c_3_c0 : v3.cell? ⟨w.heap.size + 1, 0, none⟩ = some (.int .i64 c) := (Bc_3.cell 0).trans rfl
  have c_3_f0 := Bc_3.frozen 0
  have c_3_c1 : v3.cell? ⟨w.heap.size + 1, 1, none⟩ = some (.int .i64 d) := (Bc_3.cell 1).trans rfl
  have c_3_f1 := Bc_3.frozen 1
  have r_3_z : w.heap.size + 1 + 1 < v3.heap.size := Br_3.lt
  have r_3_c0 : v3.cell? ⟨w.heap.size + 1 + 1, 0, none⟩ = some (.int .i64 0) := (Br_3.cell 0).trans rfl
  have r_3_f0 := Br_3.frozen 0
  have r_3_c1 : v3.cell? ⟨w.heap.size + 1 + 1, 1, none⟩ = some (.int .i64 0) := (Br_3.cell 1).trans rfl
  have r_3_f1 := Br_3.frozen 1
  have k_3_z : v1.heap.size < v3.heap.size := Bk_3.lt
  have k_3_c0 : v3.cell? ⟨v1.heap.size, 0, none⟩ = some (.bool false) := (Bk_3.cell 0).trans rfl
  have k_3_f0 := Bk_3.frozen 0
  go_wp2_with fail
  refine (told_c _ _ _ _ _ _ Bk_3 hB2.out).mono ?_; rintro e z3 ⟨rfl, ht3⟩
  have nt_a_3 : w.heap.size ≠ v1.heap.size := (by have := Ba_1.lt; omega)
  have Ya_3 := ht3.keep _ _ _ nt_a_3 Ba_3
  have nt_c_3 : w.heap.size + 1 ≠ v1.heap.size := (by have := Bc_1.lt; omega)
  have Yc_3 := ht3.keep _ _ _ nt_c_3 Bc_3
  have nt_r_3 : w.heap.size + 1 + 1 ≠ v1.heap.size := (by have := Br_1.lt; omega)
  have Yr_3 := ht3.keep _ _ _ nt_r_3 Br_3
  have Yk_3 := ht3.own
  have bl3 := ht3.below _ bl3 (by have := bl1.size; omega)
  clear a_3_z a_3_c0 a_3_f0 a_3_c1 a_3_f1
  clear c_3_z c_3_c0 c_3_f0 c_3_c1 c_3_f1
  clear r_3_z r_3_c0 r_3_f0 r_3_c1 r_3_f1
  clear k_3_z k_3_c0 k_3_f0
  have a_t3_z : w.heap.size < z3.heap.size := Ya_3.lt
  have a_t3_c0 : z3.cell? ⟨w.heap.size, 0, none⟩ = some (.int .i64 a) := (Ya_3.cell 0).trans rfl
  have a_t3_f0 := Ya_3.frozen 0
  have a_t3_c1 : z3.cell? ⟨w.heap.size, 1, none⟩ = some (.int .i64 b) := (Ya_3.cell 1).trans rfl
  have a_t3_f1 := Ya_3.frozen 1
  have c_t3_z : w.heap.size + 1 < z3.heap.size := Yc_3.lt
  have c_t3_c0 : z3.cell? ⟨w.heap.size + 1, 0, none⟩ = some (.int .i64 c) := (Yc_3.cell 0).trans rfl
  have c_t3_f0 := Yc_3.frozen 0
  have c_t3_c1 : z3.cell? ⟨w.heap.size + 1, 1, none⟩ = some (.int .i64 d) := (Yc_3.cell 1).trans rfl
  have c_t3_f1 := Yc_3.frozen 1
  have r_t3_z : w.heap.size + 1 + 1 < z3.heap.size := Yr_3.lt
  have r_t3_c0 : z3.cell? ⟨w.heap.size + 1 + 1, 0, none⟩ = some (.int .i64 0) := (Yr_3.cell 0).trans rfl
  have r_t3_f0 := Yr_3.frozen 0
  have r_t3_c1 : z3.cell? ⟨w.heap.size + 1 + 1, 1, none⟩ = some (.int .i64 0) := (Yr_3.cell 1).trans rfl
  have r_t3_f1 := Yr_3.frozen 1
  have k_t3_z : v1.heap.size < z3.heap.size := Yk_3.lt
  have k_t3_c0 : z3.cell? ⟨v1.heap.size, 0, none⟩ = some (.bool false) := (Yk_3.cell 0).trans rfl
  have k_t3_f0 := Yk_3.frozen 0
  go_wp2_with fail
  go_region_held3 (fun w' => w'.cell? ⟨w.heap.size, 0, none⟩ = some (.int .i64 a) ∧ w'.cell? ⟨w.heap.size, 1, none⟩ = some (.int .i64 b) ∧ w'.cell? ⟨w.heap.size + 1, 0, none⟩ = some (.int .i64 c) ∧ w'.cell? ⟨w.heap.size + 1, 1, none⟩ = some (.int .i64 d)) (go_keep) (first | (go_at_call 56; with_reducible refine (H4.out _).mono ?_; rintro e v4 ⟨rfl, hb4⟩; have st4 := bl_step (bl_drew (Below.refl _ _)) hb4; have bl4 := bl_step bl3 st4; clear a_t3_z a_t3_c0 a_t3_f0 a_t3_c1 a_t3_f1; have Ba_4 := Ya_3.below st4; clear c_t3_z c_t3_c0 c_t3_f0 c_t3_c1 c_t3_f1; have Bc_4 := Yc_3.below st4; clear r_t3_z r_t3_c0 r_t3_f0 r_t3_c1 r_t3_f1; have Br_4 := Yr_3.below st4; clear k_t3_z k_t3_c0 k_t3_f0; have Bk_4 := Yk_3.below st4; have a_4_z : w.heap.size < v4.heap.size := Ba_4.lt; have a_4_c0 : v4.cell? ⟨w.heap.size, 0, none⟩ = some (.int .i64 a) := (Ba_4.cell 0).trans rfl; have a_4_f0 := Ba_4.frozen 0; have a_4_c1 : v4.cell? ⟨w.heap.size, 1, none⟩ = some (.int .i64 b) := (Ba_4.cell 1).trans rfl; have a_4_f1 := Ba_4.frozen 1; have c_4_z : w.heap.size + 1 < v4.heap.size := Bc_4.lt; have c_4_c0 : v4.cell? ⟨w.heap.size + 1, 0, none⟩ = some (.int .i64 c) := (Bc_4.cell 0).trans rfl; have c_4_f0 := Bc_4.frozen 0; have c_4_c1 : v4.cell? ⟨w.heap.size + 1, 1, none⟩ = some (.int .i64 d) := (Bc_4.cell 1).trans rfl; have c_4_f1 := Bc_4.frozen 1; have r_4_z : w.heap.size + 1 + 1 < v4.heap.size := Br_4.lt; have r_4_c0 : v4.cell? ⟨w.heap.size + 1 + 1, 0, none⟩ = some (.int .i64 0) := (Br_4.cell 0).trans rfl; have r_4_f0 := Br_4.frozen 0; have r_4_c1 : v4.cell? ⟨w.heap.size + 1 + 1, 1, none⟩ = some (.int .i64 0) := (Br_4.cell 1).trans rfl; have r_4_f1 := Br_4.frozen 1; have k_4_z : v1.heap.size < v4.heap.size := Bk_4.lt; have k_4_c0 : v4.cell? ⟨v1.heap.size, 0, none⟩ = some (.bool false) := (Bk_4.cell 0).trans rfl; have k_4_f0 := Bk_4.frozen 0) | (go_at_call 55; with_reducible refine (told_c _ _ _ _ _ _ Bk_4 hB4.out).mono ?_; rintro e z4 ⟨rfl, ht4⟩; have nt_a_4 : w.heap.size ≠ v1.heap.size := (by have := Ba_1.lt; omega); have Ya_4 := ht4.keep _ _ _ nt_a_4 Ba_4; have nt_c_4 : w.heap.size + 1 ≠ v1.heap.size := (by have := Bc_1.lt; omega); have Yc_4 := ht4.keep _ _ _ nt_c_4 Bc_4; have nt_r_4 : w.heap.size + 1 + 1 ≠ v1.heap.size := (by have := Br_1.lt; omega); have Yr_4 := ht4.keep _ _ _ nt_r_4 Br_4; have Yk_4 := ht4.own; have bl4 := ht4.below _ bl4 (by have := bl1.size; omega); clear a_4_z a_4_c0 a_4_f0 a_4_c1 a_4_f1; clear c_4_z c_4_c0 c_4_f0 c_4_c1 c_4_f1; clear r_4_z r_4_c0 r_4_f0 r_4_c1 r_4_f1; clear k_4_z k_4_c0 k_4_f0; have a_t4_z : w.heap.size < z4.heap.size := Ya_4.lt; have a_t4_c0 : z4.cell? ⟨w.heap.size, 0, none⟩ = some (.int .i64 a) := (Ya_4.cell 0).trans rfl; have a_t4_f0 := Ya_4.frozen 0; have a_t4_c1 : z4.cell? ⟨w.heap.size, 1, none⟩ = some (.int .i64 b) := (Ya_4.cell 1).trans rfl; have a_t4_f1 := Ya_4.frozen 1; have c_t4_z : w.heap.size + 1 < z4.heap.size := Yc_4.lt; have c_t4_c0 : z4.cell? ⟨w.heap.size + 1, 0, none⟩ = some (.int .i64 c) := (Yc_4.cell 0).trans rfl; have c_t4_f0 := Yc_4.frozen 0; have c_t4_c1 : z4.cell? ⟨w.heap.size + 1, 1, none⟩ = some (.int .i64 d) := (Yc_4.cell 1).trans rfl; have c_t4_f1 := Yc_4.frozen 1; have r_t4_z : w.heap.size + 1 + 1 < z4.heap.size := Yr_4.lt; have r_t4_c0 : z4.cell? ⟨w.heap.size + 1 + 1, 0, none⟩ = some (.int .i64 0) := (Yr_4.cell 0).trans rfl; have r_t4_f0 := Yr_4.frozen 0; have r_t4_c1 : z4.cell? ⟨w.heap.size + 1 + 1, 1, none⟩ = some (.int .i64 0) := (Yr_4.cell 1).trans rfl; have r_t4_f1 := Yr_4.frozen 1; have k_t4_z : v1.heap.size < z4.heap.size := Yk_4.lt; have k_t4_c0 : z4.cell? ⟨v1.heap.size, 0, none⟩ = some (.bool B4) := (Yk_4.cell 0).trans rfl; have k_t4_f0 := Yk_4.frozen 0))
  go_wp2_with fail
  go_region_held3 (fun w' => w'.cell? ⟨w.heap.size, 0, none⟩ = some (.int .i64 a) ∧ w'.cell? ⟨w.heap.size, 1, none⟩ = some (.int .i64 b) ∧ w'.cell? ⟨w.heap.size + 1, 0, none⟩ = some (.int .i64 c) ∧ w'.cell? ⟨w.heap.size + 1, 1, none⟩ = some (.int .i64 d)) (go_keep) (first | (go_at_call 56; with_reducible refine (H5.out _).mono ?_; rintro e v5 ⟨rfl, hb5⟩; have st5 := bl_step (bl_drew (Below.refl _ _)) hb5; have bl5 := bl_step bl4 st5; clear a_t4_z a_t4_c0 a_t4_f0 a_t4_c1 a_t4_f1; have Ba_5 := Ya_4.below st5; clear c_t4_z c_t4_c0 c_t4_f0 c_t4_c1 c_t4_f1; have Bc_5 := Yc_4.below st5; clear r_t4_z r_t4_c0 r_t4_f0 r_t4_c1 r_t4_f1; have Br_5 := Yr_4.below st5; clear k_t4_z k_t4_c0 k_t4_f0; have Bk_5 := Yk_4.below st5; have a_5_z : w.heap.size < v5.heap.size := Ba_5.lt; have a_5_c0 : v5.cell? ⟨w.heap.size, 0, none⟩ = some (.int .i64 a) := (Ba_5.cell 0).trans rfl; have a_5_f0 := Ba_5.frozen 0; have a_5_c1 : v5.cell? ⟨w.heap.size, 1, none⟩ = some (.int .i64 b) := (Ba_5.cell 1).trans rfl; have a_5_f1 := Ba_5.frozen 1; have c_5_z : w.heap.size + 1 < v5.heap.size := Bc_5.lt; have c_5_c0 : v5.cell? ⟨w.heap.size + 1, 0, none⟩ = some (.int .i64 c) := (Bc_5.cell 0).trans rfl; have c_5_f0 := Bc_5.frozen 0; have c_5_c1 : v5.cell? ⟨w.heap.size + 1, 1, none⟩ = some (.int .i64 d) := (Bc_5.cell 1).trans rfl; have c_5_f1 := Bc_5.frozen 1; have r_5_z : w.heap.size + 1 + 1 < v5.heap.size := Br_5.lt; have r_5_c0 : v5.cell? ⟨w.heap.size + 1 + 1, 0, none⟩ = some (.int .i64 0) := (Br_5.cell 0).trans rfl; have r_5_f0 := Br_5.frozen 0; have r_5_c1 : v5.cell? ⟨w.heap.size + 1 + 1, 1, none⟩ = some (.int .i64 0) := (Br_5.cell 1).trans rfl; have r_5_f1 := Br_5.frozen 1; have k_5_z : v1.heap.size < v5.heap.size := Bk_5.lt; have k_5_c0 : v5.cell? ⟨v1.heap.size, 0, none⟩ = some (.bool B4) := (Bk_5.cell 0).trans rfl; have k_5_f0 := Bk_5.frozen 0) | (go_at_call 55; with_reducible refine (told_c _ _ _ _ _ _ Bk_5 hE.out).mono ?_; rintro e z5 ⟨rfl, ht5⟩; have nt_a_5 : w.heap.size ≠ v1.heap.size := (by have := Ba_1.lt; omega); have Ya_5 := ht5.keep _ _ _ nt_a_5 Ba_5; have nt_c_5 : w.heap.size + 1 ≠ v1.heap.size := (by have := Bc_1.lt; omega); have Yc_5 := ht5.keep _ _ _ nt_c_5 Bc_5; have nt_r_5 : w.heap.size + 1 + 1 ≠ v1.heap.size := (by have := Br_1.lt; omega); have Yr_5 := ht5.keep _ _ _ nt_r_5 Br_5; have Yk_5 := ht5.own; have bl5 := ht5.below _ bl5 (by have := bl1.size; omega); clear a_5_z a_5_c0 a_5_f0 a_5_c1 a_5_f1; clear c_5_z c_5_c0 c_5_f0 c_5_c1 c_5_f1; clear r_5_z r_5_c0 r_5_f0 r_5_c1 r_5_f1; clear k_5_z k_5_c0 k_5_f0; have a_t5_z : w.heap.size < z5.heap.size := Ya_5.lt; have a_t5_c0 : z5.cell? ⟨w.heap.size, 0, none⟩ = some (.int .i64 a) := (Ya_5.cell 0).trans rfl; have a_t5_f0 := Ya_5.frozen 0; have a_t5_c1 : z5.cell? ⟨w.heap.size, 1, none⟩ = some (.int .i64 b) := (Ya_5.cell 1).trans rfl; have a_t5_f1 := Ya_5.frozen 1; have c_t5_z : w.heap.size + 1 < z5.heap.size := Yc_5.lt; have c_t5_c0 : z5.cell? ⟨w.heap.size + 1, 0, none⟩ = some (.int .i64 c) := (Yc_5.cell 0).trans rfl; have c_t5_f0 := Yc_5.frozen 0; have c_t5_c1 : z5.cell? ⟨w.heap.size + 1, 1, none⟩ = some (.int .i64 d) := (Yc_5.cell 1).trans rfl; have c_t5_f1 := Yc_5.frozen 1; have r_t5_z : w.heap.size + 1 + 1 < z5.heap.size := Yr_5.lt; have r_t5_c0 : z5.cell? ⟨w.heap.size + 1 + 1, 0, none⟩ = some (.int .i64 0) := (Yr_5.cell 0).trans rfl; have r_t5_f0 := Yr_5.frozen 0; have r_t5_c1 : z5.cell? ⟨w.heap.size + 1 + 1, 1, none⟩ = some (.int .i64 0) := (Yr_5.cell 1).trans rfl; have r_t5_f1 := Yr_5.frozen 1; have k_t5_z : v1.heap.size < z5.heap.size := Yk_5.lt; have k_t5_c0 : z5.cell? ⟨v1.heap.size, 0, none⟩ = some (.bool true) := (Yk_5.cell 0).trans rfl; have k_t5_f0 := Yk_5.frozen 0))
  go_wp2
  refine bodyPost_ret (v := .tuple #[.agg #[.int .i64 0, .int .i64 0], .bool false]) (by simp [results, Tryd.results29, go_sem, r_t5_c0, r_t5_f0, r_t5_c1, r_t5_f1]) rfl ⟨rfl, ?_⟩
  (repeat (first | exact Below.refl _ _ | with_reducible assumption | refine bl_alloc ?_ _ | refine bl_set ?_ (by simp <;> omega) _ | refine bl_drew ?_ | refine bl_drewN ?_ _ | refine bl_step ?_ (by assumption)))
set_option maxHeartbeats 3200000 in
theorem rmul_whole (a b c d g h p q r s S M N D : Int) (x2 x3 x4 x5 x6 B4 : Bool) (w : World) (HB : (Hid (∀ w, Calls Tryd.prog 49 #[.agg #[.int .i64 a, .int .i64 b], .agg #[.int .i64 c, .int .i64 d]] w fun e w' => e = .returned (.bool true) ∧ Below w.heap.size w w')))
    (hgz : (g == 0) = false) (hhz : (h == 0) = false) (hgn : ¬ g = 0) (hhn : ¬ h = 0) (wp : IntKind.i64.wrap p = p) (wq : IntKind.i64.wrap q = q) (wr : IntKind.i64.wrap r = r) (ws : IntKind.i64.wrap s = s) (hp : a.tdiv g = p) (hq : c.tdiv h = q) (hr : b.tdiv h = r) (hs : d.tdiv g = s)
    (p1 : -9223372036854775808 ≤ p) (p2 : p ≤ 9223372036854775807) (q1 : -9223372036854775808 ≤ q) (q2 : q ≤ 9223372036854775807) (r1 : -9223372036854775808 ≤ r) (r2 : r ≤ 9223372036854775807) (s1 : -9223372036854775808 ≤ s) (s2 : s ≤ 9223372036854775807)
    (hB1 : Hid ((false || !true) = false)) (hB2 : Hid ((false || !true) = false)) (hB4 : Hid ((false || !x4) = B4)) (hE : Hid ((B4 || !x5) = false))
    (H1 : (Hid (∀ w, Calls Tryd.prog 37 #[.int .i64 a, .int .i64 d] w fun e w' => e = .returned (.tuple #[.int .i64 g, .bool true]) ∧ Below w.heap.size w w')))
    (H2 : (Hid (∀ w, Calls Tryd.prog 37 #[.int .i64 c, .int .i64 b] w fun e w' => e = .returned (.tuple #[.int .i64 h, .bool true]) ∧ Below w.heap.size w w')))
    (H4 : (Hid (∀ w, Calls Tryd.prog 56 #[.int .i64 p, .int .i64 q] w fun e w' => e = .returned (.tuple #[.int .i64 S, .bool x4]) ∧ Below w.heap.size w w')))
    (H5 : (Hid (∀ w, Calls Tryd.prog 56 #[.int .i64 r, .int .i64 s] w fun e w' => e = .returned (.tuple #[.int .i64 M, .bool x5]) ∧ Below w.heap.size w w')))
    (H6 : (Hid (∀ w, Calls Tryd.prog 11 #[.int .i64 S, .int .i64 M] w fun e w' => e = .returned (.tuple #[.agg #[.int .i64 N, .int .i64 D], .bool x6]) ∧ Below w.heap.size w w'))) :
    Calls Tryd.prog 29 #[.agg #[.int .i64 a, .int .i64 b], .agg #[.int .i64 c, .int .i64 d]] w fun e w' => e = .returned (.tuple #[.agg #[.int .i64 N, .int .i64 D], .bool x6]) ∧ Below w.heap.size w w' := by
  go_enter Tryd.func29, Tryd.ntmps29
  go_wp2_with fail
  refine (HB.out _).mono ?_; rintro e v1 ⟨rfl, hb1⟩
  have st1 := bl_step (bl_alloc (bl_alloc (bl_alloc (Below.refl _ _) _) _) _) hb1
  have bl1 := st1
  have Ba_1 : Blk v1 (w.heap.size) 23 #[.int .i64 a, .int .i64 b] := (((Blk.new _ _ _).alloc _).alloc _).below hb1
  have Bc_1 : Blk v1 (w.heap.size + 1) 23 #[.int .i64 c, .int .i64 d] := ((Blk.new' (by simp) _ _).alloc _).below hb1
  have Br_1 : Blk v1 (w.heap.size + 1 + 1) 23 #[.int .i64 0, .int .i64 0] := (Blk.new' (by simp) _ _).below hb1
  have a_1_z : w.heap.size < v1.heap.size := Ba_1.lt
  have a_1_c0 : v1.cell? ⟨w.heap.size, 0, none⟩ = some (.int .i64 a) := (Ba_1.cell 0).trans rfl
  have a_1_f0 := Ba_1.frozen 0
  have a_1_c1 : v1.cell? ⟨w.heap.size, 1, none⟩ = some (.int .i64 b) := (Ba_1.cell 1).trans rfl
  have a_1_f1 := Ba_1.frozen 1
  have c_1_z : w.heap.size + 1 < v1.heap.size := Bc_1.lt
  have c_1_c0 : v1.cell? ⟨w.heap.size + 1, 0, none⟩ = some (.int .i64 c) := (Bc_1.cell 0).trans rfl
  have c_1_f0 := Bc_1.frozen 0
  have c_1_c1 : v1.cell? ⟨w.heap.size + 1, 1, none⟩ = some (.int .i64 d) := (Bc_1.cell 1).trans rfl
  have c_1_f1 := Bc_1.frozen 1
  have r_1_z : w.heap.size + 1 + 1 < v1.heap.size := Br_1.lt
  have r_1_c0 : v1.cell? ⟨w.heap.size + 1 + 1, 0, none⟩ = some (.int .i64 0) := (Br_1.cell 0).trans rfl
  have r_1_f0 := Br_1.frozen 0
  have r_1_c1 : v1.cell? ⟨w.heap.size + 1 + 1, 1, none⟩ = some (.int .i64 0) := (Br_1.cell 1).trans rfl
  have r_1_f1 := Br_1.frozen 1
  go_wp2_with fail
  refine (H1.out _).mono ?_; rintro e v2 ⟨rfl, hb2⟩
  have st2 := bl_step (bl_alloc (Below.refl _ _) _) hb2
  have bl2 := bl_step bl1 st2
  have Bk_2 : Blk v2 (v1.heap.size) 76 #[.bool false] := (Blk.new _ _ _).below hb2
  clear a_1_z a_1_c0 a_1_f0 a_1_c1 a_1_f1
  have Ba_2 := Ba_1.below st2
  clear c_1_z c_1_c0 c_1_f0 c_1_c1 c_1_f1
  have Bc_2 := Bc_1.below st2
  clear r_1_z r_1_c0 r_1_f0 r_1_c1 r_1_f1
  have Br_2 := Br_1.below st2
  have a_2_z : w.heap.size < v2.heap.size := Ba_2.lt
  have a_2_c0 : v2.cell? ⟨w.heap.size, 0, none⟩ = some (.int .i64 a) := (Ba_2.cell 0).trans rfl
  have a_2_f0 := Ba_2.frozen 0
  have a_2_c1 : v2.cell? ⟨w.heap.size, 1, none⟩ = some (.int .i64 b) := (Ba_2.cell 1).trans rfl
  have a_2_f1 := Ba_2.frozen 1
  have c_2_z : w.heap.size + 1 < v2.heap.size := Bc_2.lt
  have c_2_c0 : v2.cell? ⟨w.heap.size + 1, 0, none⟩ = some (.int .i64 c) := (Bc_2.cell 0).trans rfl
  have c_2_f0 := Bc_2.frozen 0
  have c_2_c1 : v2.cell? ⟨w.heap.size + 1, 1, none⟩ = some (.int .i64 d) := (Bc_2.cell 1).trans rfl
  have c_2_f1 := Bc_2.frozen 1
  have r_2_z : w.heap.size + 1 + 1 < v2.heap.size := Br_2.lt
  have r_2_c0 : v2.cell? ⟨w.heap.size + 1 + 1, 0, none⟩ = some (.int .i64 0) := (Br_2.cell 0).trans rfl
  have r_2_f0 := Br_2.frozen 0
  have r_2_c1 : v2.cell? ⟨w.heap.size + 1 + 1, 1, none⟩ = some (.int .i64 0) := (Br_2.cell 1).trans rfl
  have r_2_f1 := Br_2.frozen 1
  have k_2_z : v1.heap.size < v2.heap.size := Bk_2.lt
  have k_2_c0 : v2.cell? ⟨v1.heap.size, 0, none⟩ = some (.bool false) := (Bk_2.cell 0).trans rfl
  have k_2_f0 := Bk_2.frozen 0
  go_wp2_with fail
  refine (told_c _ _ _ _ _ _ Bk_2 hB1.out).mono ?_; rintro e z2 ⟨rfl, ht2⟩
  have nt_a_2 : w.heap.size ≠ v1.heap.size := (by have := Ba_1.lt; omega)
  have Ya_2 := ht2.keep _ _ _ nt_a_2 Ba_2
  have nt_c_2 : w.heap.size + 1 ≠ v1.heap.size := (by have := Bc_1.lt; omega)
  have Yc_2 := ht2.keep _ _ _ nt_c_2 Bc_2
  have nt_r_2 : w.heap.size + 1 + 1 ≠ v1.heap.size := (by have := Br_1.lt; omega)
  have Yr_2 := ht2.keep _ _ _ nt_r_2 Br_2
  have Yk_2 := ht2.own
  have bl2 := ht2.below _ bl2 (by have := bl1.size; omega)
  clear a_2_z a_2_c0 a_2_f0 a_2_c1 a_2_f1
  clear c_2_z c_2_c0 c_2_f0 c_2_c1 c_2_f1
  clear r_2_z r_2_c0 r_2_f0 r_2_c1 r_2_f1
  clear k_2_z k_2_c0 k_2_f0
  have a_t2_z : w.heap.size < z2.heap.size := Ya_2.lt
  have a_t2_c0 : z2.cell? ⟨w.heap.size, 0, none⟩ = some (.int .i64 a) := (Ya_2.cell 0).trans rfl
  have a_t2_f0 := Ya_2.frozen 0
  have a_t2_c1 : z2.cell? ⟨w.heap.size, 1, none⟩ = some (.int .i64 b) := (Ya_2.cell 1).trans rfl
  have a_t2_f1 := Ya_2.frozen 1
  have c_t2_z : w.heap.size + 1 < z2.heap.size := Yc_2.lt
  have c_t2_c0 : z2.cell? ⟨w.heap.size + 1, 0, none⟩ = some (.int .i64 c) := (Yc_2.cell 0).trans rfl
  have c_t2_f0 := Yc_2.frozen 0
  have c_t2_c1 : z2.cell? ⟨w.heap.size + 1, 1, none⟩ = some (.int .i64 d) := (Yc_2.cell 1).trans rfl
  have c_t2_f1 := Yc_2.frozen 1
  have r_t2_z : w.heap.size + 1 + 1 < z2.heap.size := Yr_2.lt
  have r_t2_c0 : z2.cell? ⟨w.heap.size + 1 + 1, 0, none⟩ = some (.int .i64 0) := (Yr_2.cell 0).trans rfl
  have r_t2_f0 := Yr_2.frozen 0
  have r_t2_c1 : z2.cell? ⟨w.heap.size + 1 + 1, 1, none⟩ = some (.int .i64 0) := (Yr_2.cell 1).trans rfl
  have r_t2_f1 := Yr_2.frozen 1
  have k_t2_z : v1.heap.size < z2.heap.size := Yk_2.lt
  have k_t2_c0 : z2.cell? ⟨v1.heap.size, 0, none⟩ = some (.bool false) := (Yk_2.cell 0).trans rfl
  have k_t2_f0 := Yk_2.frozen 0
  go_wp2_with fail
  refine (H2.out _).mono ?_; rintro e v3 ⟨rfl, hb3⟩
  have st3 := bl_step (Below.refl _ _) hb3
  have bl3 := bl_step bl2 st3
  clear a_t2_z a_t2_c0 a_t2_f0 a_t2_c1 a_t2_f1
  have Ba_3 := Ya_2.below st3
  clear c_t2_z c_t2_c0 c_t2_f0 c_t2_c1 c_t2_f1
  have Bc_3 := Yc_2.below st3
  clear r_t2_z r_t2_c0 r_t2_f0 r_t2_c1 r_t2_f1
  have Br_3 := Yr_2.below st3
  clear k_t2_z k_t2_c0 k_t2_f0
  have Bk_3 := Yk_2.below st3
  have a_3_z : w.heap.size < v3.heap.size := Ba_3.lt
  have a_3_c0 : v3.cell? ⟨w.heap.size, 0, none⟩ = some (.int .i64 a) := (Ba_3.cell 0).trans rfl
  have a_3_f0 := Ba_3.frozen 0
  have a_3_c1 : v3.cell? ⟨w.heap.size, 1, none⟩ = some (.int .i64 b) := (Ba_3.cell 1).trans rfl
  have a_3_f1 := Ba_3.frozen 1
  have c_3_z : w.heap.size + 1 < v3.heap.size := Bc_3.lt
  have c_3_c0 : v3.cell? ⟨w.heap.size + 1, 0, none⟩ = some (.int .i64 c) := (Bc_3.cell 0).trans rfl
  have c_3_f0 := Bc_3.frozen 0
  have c_3_c1 : v3.cell? ⟨w.heap.size + 1, 1, none⟩ = some (.int .i64 d) := (Bc_3.cell 1).trans rfl
  have c_3_f1 := Bc_3.frozen 1
  have r_3_z : w.heap.size + 1 + 1 < v3.heap.size := Br_3.lt
  have r_3_c0 : v3.cell? ⟨w.heap.size + 1 + 1, 0, none⟩ = some (.int .i64 0) := (Br_3.cell 0).trans rfl
  have r_3_f0 := Br_3.frozen 0
  have r_3_c1 : v3.cell? ⟨w.heap.size + 1 + 1, 1, none⟩ = some (.int .i64 0) := (Br_3.cell 1).trans rfl
  have r_3_f1 := Br_3.frozen 1
  have k_3_z : v1.heap.size < v3.heap.size := Bk_3.lt
  have k_3_c0 : v3.cell? ⟨v1.heap.size, 0, none⟩ = some (.bool false) := (Bk_3.cell 0).trans rfl
  have k_3_f0 := Bk_3.frozen 0
  go_wp2_with fail
  refine (told_c _ _ _ _ _ _ Bk_3 hB2.out).mono ?_; rintro e z3 ⟨rfl, ht3⟩
  have nt_a_3 : w.heap.size ≠ v1.heap.size := (by have := Ba_1.lt; omega)
  have Ya_3 := ht3.keep _ _ _ nt_a_3 Ba_3
  have nt_c_3 : w.heap.size + 1 ≠ v1.heap.size := (by have := Bc_1.lt; omega)
  have Yc_3 := ht3.keep _ _ _ nt_c_3 Bc_3
  have nt_r_3 : w.heap.size + 1 + 1 ≠ v1.heap.size := (by have := Br_1.lt; omega)
  have Yr_3 := ht3.keep _ _ _ nt_r_3 Br_3
  have Yk_3 := ht3.own
  have bl3 := ht3.below _ bl3 (by have := bl1.size; omega)
  clear a_3_z a_3_c0 a_3_f0 a_3_c1 a_3_f1
  clear c_3_z c_3_c0 c_3_f0 c_3_c1 c_3_f1
  clear r_3_z r_3_c0 r_3_f0 r_3_c1 r_3_f1
  clear k_3_z k_3_c0 k_3_f0
  have a_t3_z : w.heap.size < z3.heap.size := Ya_3.lt
  have a_t3_c0 : z3.cell? ⟨w.heap.size, 0, none⟩ = some (.int .i64 a) := (Ya_3.cell 0).trans rfl
  have a_t3_f0 := Ya_3.frozen 0
  have a_t3_c1 : z3.cell? ⟨w.heap.size, 1, none⟩ = some (.int .i64 b) := (Ya_3.cell 1).trans rfl
  have a_t3_f1 := Ya_3.frozen 1
  have c_t3_z : w.heap.size + 1 < z3.heap.size := Yc_3.lt
  have c_t3_c0 : z3.cell? ⟨w.heap.size + 1, 0, none⟩ = some (.int .i64 c) := (Yc_3.cell 0).trans rfl
  have c_t3_f0 := Yc_3.frozen 0
  have c_t3_c1 : z3.cell? ⟨w.heap.size + 1, 1, none⟩ = some (.int .i64 d) := (Yc_3.cell 1).trans rfl
  have c_t3_f1 := Yc_3.frozen 1
  have r_t3_z : w.heap.size + 1 + 1 < z3.heap.size := Yr_3.lt
  have r_t3_c0 : z3.cell? ⟨w.heap.size + 1 + 1, 0, none⟩ = some (.int .i64 0) := (Yr_3.cell 0).trans rfl
  have r_t3_f0 := Yr_3.frozen 0
  have r_t3_c1 : z3.cell? ⟨w.heap.size + 1 + 1, 1, none⟩ = some (.int .i64 0) := (Yr_3.cell 1).trans rfl
  have r_t3_f1 := Yr_3.frozen 1
  have k_t3_z : v1.heap.size < z3.heap.size := Yk_3.lt
  have k_t3_c0 : z3.cell? ⟨v1.heap.size, 0, none⟩ = some (.bool false) := (Yk_3.cell 0).trans rfl
  have k_t3_f0 := Yk_3.frozen 0
  go_wp2_with fail
  go_region_held3 (fun w' => w'.cell? ⟨w.heap.size, 0, none⟩ = some (.int .i64 a) ∧ w'.cell? ⟨w.heap.size, 1, none⟩ = some (.int .i64 b) ∧ w'.cell? ⟨w.heap.size + 1, 0, none⟩ = some (.int .i64 c) ∧ w'.cell? ⟨w.heap.size + 1, 1, none⟩ = some (.int .i64 d)) (go_keep) (first | (go_at_call 56; with_reducible refine (H4.out _).mono ?_; rintro e v4 ⟨rfl, hb4⟩; have st4 := bl_step (bl_drew (Below.refl _ _)) hb4; have bl4 := bl_step bl3 st4; clear a_t3_z a_t3_c0 a_t3_f0 a_t3_c1 a_t3_f1; have Ba_4 := Ya_3.below st4; clear c_t3_z c_t3_c0 c_t3_f0 c_t3_c1 c_t3_f1; have Bc_4 := Yc_3.below st4; clear r_t3_z r_t3_c0 r_t3_f0 r_t3_c1 r_t3_f1; have Br_4 := Yr_3.below st4; clear k_t3_z k_t3_c0 k_t3_f0; have Bk_4 := Yk_3.below st4; have a_4_z : w.heap.size < v4.heap.size := Ba_4.lt; have a_4_c0 : v4.cell? ⟨w.heap.size, 0, none⟩ = some (.int .i64 a) := (Ba_4.cell 0).trans rfl; have a_4_f0 := Ba_4.frozen 0; have a_4_c1 : v4.cell? ⟨w.heap.size, 1, none⟩ = some (.int .i64 b) := (Ba_4.cell 1).trans rfl; have a_4_f1 := Ba_4.frozen 1; have c_4_z : w.heap.size + 1 < v4.heap.size := Bc_4.lt; have c_4_c0 : v4.cell? ⟨w.heap.size + 1, 0, none⟩ = some (.int .i64 c) := (Bc_4.cell 0).trans rfl; have c_4_f0 := Bc_4.frozen 0; have c_4_c1 : v4.cell? ⟨w.heap.size + 1, 1, none⟩ = some (.int .i64 d) := (Bc_4.cell 1).trans rfl; have c_4_f1 := Bc_4.frozen 1; have r_4_z : w.heap.size + 1 + 1 < v4.heap.size := Br_4.lt; have r_4_c0 : v4.cell? ⟨w.heap.size + 1 + 1, 0, none⟩ = some (.int .i64 0) := (Br_4.cell 0).trans rfl; have r_4_f0 := Br_4.frozen 0; have r_4_c1 : v4.cell? ⟨w.heap.size + 1 + 1, 1, none⟩ = some (.int .i64 0) := (Br_4.cell 1).trans rfl; have r_4_f1 := Br_4.frozen 1; have k_4_z : v1.heap.size < v4.heap.size := Bk_4.lt; have k_4_c0 : v4.cell? ⟨v1.heap.size, 0, none⟩ = some (.bool false) := (Bk_4.cell 0).trans rfl; have k_4_f0 := Bk_4.frozen 0) | (go_at_call 55; with_reducible refine (told_c _ _ _ _ _ _ Bk_4 hB4.out).mono ?_; rintro e z4 ⟨rfl, ht4⟩; have nt_a_4 : w.heap.size ≠ v1.heap.size := (by have := Ba_1.lt; omega); have Ya_4 := ht4.keep _ _ _ nt_a_4 Ba_4; have nt_c_4 : w.heap.size + 1 ≠ v1.heap.size := (by have := Bc_1.lt; omega); have Yc_4 := ht4.keep _ _ _ nt_c_4 Bc_4; have nt_r_4 : w.heap.size + 1 + 1 ≠ v1.heap.size := (by have := Br_1.lt; omega); have Yr_4 := ht4.keep _ _ _ nt_r_4 Br_4; have Yk_4 := ht4.own; have bl4 := ht4.below _ bl4 (by have := bl1.size; omega); clear a_4_z a_4_c0 a_4_f0 a_4_c1 a_4_f1; clear c_4_z c_4_c0 c_4_f0 c_4_c1 c_4_f1; clear r_4_z r_4_c0 r_4_f0 r_4_c1 r_4_f1; clear k_4_z k_4_c0 k_4_f0; have a_t4_z : w.heap.size < z4.heap.size := Ya_4.lt; have a_t4_c0 : z4.cell? ⟨w.heap.size, 0, none⟩ = some (.int .i64 a) := (Ya_4.cell 0).trans rfl; have a_t4_f0 := Ya_4.frozen 0; have a_t4_c1 : z4.cell? ⟨w.heap.size, 1, none⟩ = some (.int .i64 b) := (Ya_4.cell 1).trans rfl; have a_t4_f1 := Ya_4.frozen 1; have c_t4_z : w.heap.size + 1 < z4.heap.size := Yc_4.lt; have c_t4_c0 : z4.cell? ⟨w.heap.size + 1, 0, none⟩ = some (.int .i64 c) := (Yc_4.cell 0).trans rfl; have c_t4_f0 := Yc_4.frozen 0; have c_t4_c1 : z4.cell? ⟨w.heap.size + 1, 1, none⟩ = some (.int .i64 d) := (Yc_4.cell 1).trans rfl; have c_t4_f1 := Yc_4.frozen 1; have r_t4_z : w.heap.size + 1 + 1 < z4.heap.size := Yr_4.lt; have r_t4_c0 : z4.cell? ⟨w.heap.size + 1 + 1, 0, none⟩ = some (.int .i64 0) := (Yr_4.cell 0).trans rfl; have r_t4_f0 := Yr_4.frozen 0; have r_t4_c1 : z4.cell? ⟨w.heap.size + 1 + 1, 1, none⟩ = some (.int .i64 0) := (Yr_4.cell 1).trans rfl; have r_t4_f1 := Yr_4.frozen 1; have k_t4_z : v1.heap.size < z4.heap.size := Yk_4.lt; have k_t4_c0 : z4.cell? ⟨v1.heap.size, 0, none⟩ = some (.bool B4) := (Yk_4.cell 0).trans rfl; have k_t4_f0 := Yk_4.frozen 0))
  go_wp2_with fail
  go_region_held3 (fun w' => w'.cell? ⟨w.heap.size, 0, none⟩ = some (.int .i64 a) ∧ w'.cell? ⟨w.heap.size, 1, none⟩ = some (.int .i64 b) ∧ w'.cell? ⟨w.heap.size + 1, 0, none⟩ = some (.int .i64 c) ∧ w'.cell? ⟨w.heap.size + 1, 1, none⟩ = some (.int .i64 d)) (go_keep) (first | (go_at_call 56; with_reducible refine (H5.out _).mono ?_; rintro e v5 ⟨rfl, hb5⟩; have st5 := bl_step (bl_drew (Below.refl _ _)) hb5; have bl5 := bl_step bl4 st5; clear a_t4_z a_t4_c0 a_t4_f0 a_t4_c1 a_t4_f1; have Ba_5 := Ya_4.below st5; clear c_t4_z c_t4_c0 c_t4_f0 c_t4_c1 c_t4_f1; have Bc_5 := Yc_4.below st5; clear r_t4_z r_t4_c0 r_t4_f0 r_t4_c1 r_t4_f1; have Br_5 := Yr_4.below st5; clear k_t4_z k_t4_c0 k_t4_f0; have Bk_5 := Yk_4.below st5; have a_5_z : w.heap.size < v5.heap.size := Ba_5.lt; have a_5_c0 : v5.cell? ⟨w.heap.size, 0, none⟩ = some (.int .i64 a) := (Ba_5.cell 0).trans rfl; have a_5_f0 := Ba_5.frozen 0; have a_5_c1 : v5.cell? ⟨w.heap.size, 1, none⟩ = some (.int .i64 b) := (Ba_5.cell 1).trans rfl; have a_5_f1 := Ba_5.frozen 1; have c_5_z : w.heap.size + 1 < v5.heap.size := Bc_5.lt; have c_5_c0 : v5.cell? ⟨w.heap.size + 1, 0, none⟩ = some (.int .i64 c) := (Bc_5.cell 0).trans rfl; have c_5_f0 := Bc_5.frozen 0; have c_5_c1 : v5.cell? ⟨w.heap.size + 1, 1, none⟩ = some (.int .i64 d) := (Bc_5.cell 1).trans rfl; have c_5_f1 := Bc_5.frozen 1; have r_5_z : w.heap.size + 1 + 1 < v5.heap.size := Br_5.lt; have r_5_c0 : v5.cell? ⟨w.heap.size + 1 + 1, 0, none⟩ = some (.int .i64 0) := (Br_5.cell 0).trans rfl; have r_5_f0 := Br_5.frozen 0; have r_5_c1 : v5.cell? ⟨w.heap.size + 1 + 1, 1, none⟩ = some (.int .i64 0) := (Br_5.cell 1).trans rfl; have r_5_f1 := Br_5.frozen 1; have k_5_z : v1.heap.size < v5.heap.size := Bk_5.lt; have k_5_c0 : v5.cell? ⟨v1.heap.size, 0, none⟩ = some (.bool B4) := (Bk_5.cell 0).trans rfl; have k_5_f0 := Bk_5.frozen 0) | (go_at_call 55; with_reducible refine (told_c _ _ _ _ _ _ Bk_5 hE.out).mono ?_; rintro e z5 ⟨rfl, ht5⟩; have nt_a_5 : w.heap.size ≠ v1.heap.size := (by have := Ba_1.lt; omega); have Ya_5 := ht5.keep _ _ _ nt_a_5 Ba_5; have nt_c_5 : w.heap.size + 1 ≠ v1.heap.size := (by have := Bc_1.lt; omega); have Yc_5 := ht5.keep _ _ _ nt_c_5 Bc_5; have nt_r_5 : w.heap.size + 1 + 1 ≠ v1.heap.size := (by have := Br_1.lt; omega); have Yr_5 := ht5.keep _ _ _ nt_r_5 Br_5; have Yk_5 := ht5.own; have bl5 := ht5.below _ bl5 (by have := bl1.size; omega); clear a_5_z a_5_c0 a_5_f0 a_5_c1 a_5_f1; clear c_5_z c_5_c0 c_5_f0 c_5_c1 c_5_f1; clear r_5_z r_5_c0 r_5_f0 r_5_c1 r_5_f1; clear k_5_z k_5_c0 k_5_f0; have a_t5_z : w.heap.size < z5.heap.size := Ya_5.lt; have a_t5_c0 : z5.cell? ⟨w.heap.size, 0, none⟩ = some (.int .i64 a) := (Ya_5.cell 0).trans rfl; have a_t5_f0 := Ya_5.frozen 0; have a_t5_c1 : z5.cell? ⟨w.heap.size, 1, none⟩ = some (.int .i64 b) := (Ya_5.cell 1).trans rfl; have a_t5_f1 := Ya_5.frozen 1; have c_t5_z : w.heap.size + 1 < z5.heap.size := Yc_5.lt; have c_t5_c0 : z5.cell? ⟨w.heap.size + 1, 0, none⟩ = some (.int .i64 c) := (Yc_5.cell 0).trans rfl; have c_t5_f0 := Yc_5.frozen 0; have c_t5_c1 : z5.cell? ⟨w.heap.size + 1, 1, none⟩ = some (.int .i64 d) := (Yc_5.cell 1).trans rfl; have c_t5_f1 := Yc_5.frozen 1; have r_t5_z : w.heap.size + 1 + 1 < z5.heap.size := Yr_5.lt; have r_t5_c0 : z5.cell? ⟨w.heap.size + 1 + 1, 0, none⟩ = some (.int .i64 0) := (Yr_5.cell 0).trans rfl; have r_t5_f0 := Yr_5.frozen 0; have r_t5_c1 : z5.cell? ⟨w.heap.size + 1 + 1, 1, none⟩ = some (.int .i64 0) := (Yr_5.cell 1).trans rfl; have r_t5_f1 := Yr_5.frozen 1; have k_t5_z : v1.heap.size < z5.heap.size := Yk_5.lt; have k_t5_c0 : z5.cell? ⟨v1.heap.size, 0, none⟩ = some (.bool false) := (Yk_5.cell 0).trans rfl; have k_t5_f0 := Yk_5.frozen 0))
  go_wp2_with fail
  refine (H6.out _).mono ?_; rintro e v6 ⟨rfl, hb6⟩
  have st6 := bl_step (Below.refl _ _) hb6
  have bl6 := bl_step bl5 st6
  clear a_t5_z a_t5_c0 a_t5_f0 a_t5_c1 a_t5_f1
  have Ba_6 := Ya_5.below st6
  clear c_t5_z c_t5_c0 c_t5_f0 c_t5_c1 c_t5_f1
  have Bc_6 := Yc_5.below st6
  clear r_t5_z r_t5_c0 r_t5_f0 r_t5_c1 r_t5_f1
  have Br_6 := Yr_5.below st6
  clear k_t5_z k_t5_c0 k_t5_f0
  have Bk_6 := Yk_5.below st6
  have a_6_z : w.heap.size < v6.heap.size := Ba_6.lt
  have a_6_c0 : v6.cell? ⟨w.heap.size, 0, none⟩ = some (.int .i64 a) := (Ba_6.cell 0).trans rfl
  have a_6_f0 := Ba_6.frozen 0
  have a_6_c1 : v6.cell? ⟨w.heap.size, 1, none⟩ = some (.int .i64 b) := (Ba_6.cell 1).trans rfl
  have a_6_f1 := Ba_6.frozen 1
  have c_6_z : w.heap.size + 1 < v6.heap.size := Bc_6.lt
  have c_6_c0 : v6.cell? ⟨w.heap.size + 1, 0, none⟩ = some (.int .i64 c) := (Bc_6.cell 0).trans rfl
  have c_6_f0 := Bc_6.frozen 0
  have c_6_c1 : v6.cell? ⟨w.heap.size + 1, 1, none⟩ = some (.int .i64 d) := (Bc_6.cell 1).trans rfl
  have c_6_f1 := Bc_6.frozen 1
  have r_6_z : w.heap.size + 1 + 1 < v6.heap.size := Br_6.lt
  have r_6_c0 : v6.cell? ⟨w.heap.size + 1 + 1, 0, none⟩ = some (.int .i64 0) := (Br_6.cell 0).trans rfl
  have r_6_f0 := Br_6.frozen 0
  have r_6_c1 : v6.cell? ⟨w.heap.size + 1 + 1, 1, none⟩ = some (.int .i64 0) := (Br_6.cell 1).trans rfl
  have r_6_f1 := Br_6.frozen 1
  have k_6_z : v1.heap.size < v6.heap.size := Bk_6.lt
  have k_6_c0 : v6.cell? ⟨v1.heap.size, 0, none⟩ = some (.bool false) := (Bk_6.cell 0).trans rfl
  have k_6_f0 := Bk_6.frozen 0
  go_wp2
  refine bodyPost_ret (v := .tuple #[.agg #[.int .i64 N, .int .i64 D], .bool x6]) (by simp [results, Tryd.results29, go_sem, r_6_c0, r_6_f0, r_6_c1, r_6_f1]) rfl ⟨rfl, ?_⟩
  (repeat (first | exact Below.refl _ _ | with_reducible assumption | refine bl_alloc ?_ _ | refine bl_set ?_ (by simp <;> omega) _ | refine bl_drew ?_ | refine bl_drewN ?_ _ | refine bl_step ?_ (by assumption)))
end Go.Proofs.YtkdklmkcanjjfaaDoor
