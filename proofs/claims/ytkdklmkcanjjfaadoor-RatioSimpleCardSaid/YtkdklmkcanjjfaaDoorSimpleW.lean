/- The walk of RatioSimple: the simplest ratio between every two of small numbers is the document's. -/
import Derived.Test.YtkdklmkcanjjfaaDoorRatF
import Derived.Test.YtkdklmkcanjjfaaDoorRatW
namespace Go.Proofs.YtkdklmkcanjjfaaDoor
open Go.RowKit
set_option linter.unusedVariables false
set_option linter.unusedSimpArgs false
set_option maxRecDepth 100000

theorem tmod_300 (x : Int) : -300 < x.tmod 300 ∧ x.tmod 300 < 300 := by
  have h1 := Int.tmod_lt_of_pos x (show (0 : Int) < 300 by omega)
  have h2 := Int.lt_tmod_of_pos x (show (0 : Int) < 300 by omega)
  omega
set_option maxHeartbeats 6400000 in
theorem RatioSimple_walk (x0 x1 y0 y1 : Int) (w : World) (hw : RatW w) (i0 : -32768 ≤ x0 ∧ x0 ≤ 32767) (i1 : -32768 ≤ x1 ∧ x1 ≤ 32767) (j0 : -32768 ≤ y0 ∧ y0 ≤ 32767) (j1 : -32768 ≤ y1 ∧ y1 ≤ 32767) :
    Calls Tryd.prog 9 #[.agg #[.int .i16 x0, .int .i16 x1], .agg #[.int .i16 y0, .int .i16 y1]] w fun e w' => e = .returned (.bool true) ∧ Below w.heap.size w w' := by
  obtain ⟨i0, i0'⟩ := i0
  obtain ⟨i1, i1'⟩ := i1
  obtain ⟨j0, j0'⟩ := j0
  obtain ⟨j1, j1'⟩ := j1
  obtain ⟨t1, t2⟩ := tmod_300 x1
  obtain ⟨s1, s2⟩ := tmod_300 y1
  obtain ⟨p, hp⟩ : ∃ p, wrap64 (x1.tmod 300) = p := ⟨_, rfl⟩
  obtain ⟨q, hq⟩ : ∃ q, wrap64 (y1.tmod 300) = q := ⟨_, rfl⟩
  have hpe : p = x1.tmod 300 := by rw [← hp]; unfold wrap64; omega
  have hqe : q = y1.tmod 300 := by rw [← hq]; unfold wrap64; omega
  rw [← hpe] at t1 t2
  rw [← hqe] at s1 s2
  clear hpe hqe
  have HM := fun w => rmake_any x0 p w ⟨by omega, by omega⟩ ⟨by omega, by omega⟩
  have HN := fun w => rmake_any y0 q w ⟨by omega, by omega⟩ ⟨by omega, by omega⟩
  have HW := Lib.hid (fun w' (hb : Below w.heap.size w w') => wakes2_any w' (hw.below hb))
  have SA := fun h => Lib.hid (sm_of_mk (n := x0) (m := p) (by omega) (by omega) (by omega) (by omega) h)
  have SB := fun h => Lib.hid (sm_of_mk (n := y0) (m := q) (by omega) (by omega) (by omega) (by omega) h)
  generalize mkN x0 p = a at HM SA
  generalize mkD x0 p = b at HM SA
  generalize mkB x0 p = e at HM SA
  generalize mkN y0 q = c at HN SB
  generalize mkD y0 q = d at HN SB
  generalize mkB y0 q = f at HN SB
  clear hw
  have HM := Lib.hid HM
  have HN := Lib.hid HN
  cases e
  · go_enter Tryd.func9, Tryd.ntmps9
    go_wp2_with fail
    (with_reducible refine (HM.out _).mono ?_); rintro e v1 ⟨rfl, hb1⟩
    have st1 := bl_step (bl_alloc (bl_alloc (Below.refl _ _) _) _) hb1
    have bl1 := st1
    have Bx_1 : Blk v1 (w.heap.size) 52 #[.int .i16 x0, .int .i16 x1] := ((Blk.new _ _ _).alloc _).below hb1
    have By_1 : Blk v1 (w.heap.size + 1) 52 #[.int .i16 y0, .int .i16 y1] := (Blk.new' (by simp) _ _).below hb1
    have x_1_z : w.heap.size < v1.heap.size := Bx_1.lt
    have x_1_c0 : v1.cell? ⟨w.heap.size, 0, none⟩ = some (.int .i16 x0) := (Bx_1.cell 0).trans rfl
    have x_1_f0 := Bx_1.frozen 0
    have x_1_c1 : v1.cell? ⟨w.heap.size, 1, none⟩ = some (.int .i16 x1) := (Bx_1.cell 1).trans rfl
    have x_1_f1 := Bx_1.frozen 1
    have y_1_z : w.heap.size + 1 < v1.heap.size := By_1.lt
    have y_1_c0 : v1.cell? ⟨w.heap.size + 1, 0, none⟩ = some (.int .i16 y0) := (By_1.cell 0).trans rfl
    have y_1_f0 := By_1.frozen 0
    have y_1_c1 : v1.cell? ⟨w.heap.size + 1, 1, none⟩ = some (.int .i16 y1) := (By_1.cell 1).trans rfl
    have y_1_f1 := By_1.frozen 1
    go_wp2_with fail
    (with_reducible refine (HN.out _).mono ?_); rintro e v2 ⟨rfl, hb2⟩
    have st2 := bl_step (bl_alloc (Below.refl _ _) _) hb2
    have bl2 := bl_step bl1 st2
    have Ba_2 : Blk v2 (v1.heap.size) 23 #[.int .i64 a, .int .i64 b] := (Blk.new _ _ _).below hb2
    clear x_1_z x_1_c0 x_1_f0 x_1_c1 x_1_f1
    have Bx_2 := Bx_1.below st2
    clear y_1_z y_1_c0 y_1_f0 y_1_c1 y_1_f1
    have By_2 := By_1.below st2
    have x_2_z : w.heap.size < v2.heap.size := Bx_2.lt
    have x_2_c0 : v2.cell? ⟨w.heap.size, 0, none⟩ = some (.int .i16 x0) := (Bx_2.cell 0).trans rfl
    have x_2_f0 := Bx_2.frozen 0
    have x_2_c1 : v2.cell? ⟨w.heap.size, 1, none⟩ = some (.int .i16 x1) := (Bx_2.cell 1).trans rfl
    have x_2_f1 := Bx_2.frozen 1
    have y_2_z : w.heap.size + 1 < v2.heap.size := By_2.lt
    have y_2_c0 : v2.cell? ⟨w.heap.size + 1, 0, none⟩ = some (.int .i16 y0) := (By_2.cell 0).trans rfl
    have y_2_f0 := By_2.frozen 0
    have y_2_c1 : v2.cell? ⟨w.heap.size + 1, 1, none⟩ = some (.int .i16 y1) := (By_2.cell 1).trans rfl
    have y_2_f1 := By_2.frozen 1
    have a_2_z : v1.heap.size < v2.heap.size := Ba_2.lt
    have a_2_c0 : v2.cell? ⟨v1.heap.size, 0, none⟩ = some (.int .i64 a) := (Ba_2.cell 0).trans rfl
    have a_2_f0 := Ba_2.frozen 0
    have a_2_c1 : v2.cell? ⟨v1.heap.size, 1, none⟩ = some (.int .i64 b) := (Ba_2.cell 1).trans rfl
    have a_2_f1 := Ba_2.frozen 1
    go_wp2_with fail
    (with_reducible refine (HW.out _ (bl_alloc bl2 _)).mono ?_); rintro e v3 ⟨rfl, hb3⟩
    have st3 := bl_step (bl_alloc (Below.refl _ _) _) hb3
    have bl3 := bl_step bl2 st3
    have Bb_3 : Blk v3 (v2.heap.size) 23 #[.int .i64 c, .int .i64 d] := (Blk.new _ _ _).below hb3
    clear x_2_z x_2_c0 x_2_f0 x_2_c1 x_2_f1
    have Bx_3 := Bx_2.below st3
    clear y_2_z y_2_c0 y_2_f0 y_2_c1 y_2_f1
    have By_3 := By_2.below st3
    clear a_2_z a_2_c0 a_2_f0 a_2_c1 a_2_f1
    have Ba_3 := Ba_2.below st3
    have x_3_z : w.heap.size < v3.heap.size := Bx_3.lt
    have x_3_c0 : v3.cell? ⟨w.heap.size, 0, none⟩ = some (.int .i16 x0) := (Bx_3.cell 0).trans rfl
    have x_3_f0 := Bx_3.frozen 0
    have x_3_c1 : v3.cell? ⟨w.heap.size, 1, none⟩ = some (.int .i16 x1) := (Bx_3.cell 1).trans rfl
    have x_3_f1 := Bx_3.frozen 1
    have y_3_z : w.heap.size + 1 < v3.heap.size := By_3.lt
    have y_3_c0 : v3.cell? ⟨w.heap.size + 1, 0, none⟩ = some (.int .i16 y0) := (By_3.cell 0).trans rfl
    have y_3_f0 := By_3.frozen 0
    have y_3_c1 : v3.cell? ⟨w.heap.size + 1, 1, none⟩ = some (.int .i16 y1) := (By_3.cell 1).trans rfl
    have y_3_f1 := By_3.frozen 1
    have a_3_z : v1.heap.size < v3.heap.size := Ba_3.lt
    have a_3_c0 : v3.cell? ⟨v1.heap.size, 0, none⟩ = some (.int .i64 a) := (Ba_3.cell 0).trans rfl
    have a_3_f0 := Ba_3.frozen 0
    have a_3_c1 : v3.cell? ⟨v1.heap.size, 1, none⟩ = some (.int .i64 b) := (Ba_3.cell 1).trans rfl
    have a_3_f1 := Ba_3.frozen 1
    have b_3_z : v2.heap.size < v3.heap.size := Bb_3.lt
    have b_3_c0 : v3.cell? ⟨v2.heap.size, 0, none⟩ = some (.int .i64 c) := (Bb_3.cell 0).trans rfl
    have b_3_f0 := Bb_3.frozen 0
    have b_3_c1 : v3.cell? ⟨v2.heap.size, 1, none⟩ = some (.int .i64 d) := (Bb_3.cell 1).trans rfl
    have b_3_f1 := Bb_3.frozen 1
    go_wp2
    go_ret
    exact ⟨rfl, bl3⟩
  cases f
  · go_enter Tryd.func9, Tryd.ntmps9
    go_wp2_with fail
    (with_reducible refine (HM.out _).mono ?_); rintro e v1 ⟨rfl, hb1⟩
    have st1 := bl_step (bl_alloc (bl_alloc (Below.refl _ _) _) _) hb1
    have bl1 := st1
    have Bx_1 : Blk v1 (w.heap.size) 52 #[.int .i16 x0, .int .i16 x1] := ((Blk.new _ _ _).alloc _).below hb1
    have By_1 : Blk v1 (w.heap.size + 1) 52 #[.int .i16 y0, .int .i16 y1] := (Blk.new' (by simp) _ _).below hb1
    have x_1_z : w.heap.size < v1.heap.size := Bx_1.lt
    have x_1_c0 : v1.cell? ⟨w.heap.size, 0, none⟩ = some (.int .i16 x0) := (Bx_1.cell 0).trans rfl
    have x_1_f0 := Bx_1.frozen 0
    have x_1_c1 : v1.cell? ⟨w.heap.size, 1, none⟩ = some (.int .i16 x1) := (Bx_1.cell 1).trans rfl
    have x_1_f1 := Bx_1.frozen 1
    have y_1_z : w.heap.size + 1 < v1.heap.size := By_1.lt
    have y_1_c0 : v1.cell? ⟨w.heap.size + 1, 0, none⟩ = some (.int .i16 y0) := (By_1.cell 0).trans rfl
    have y_1_f0 := By_1.frozen 0
    have y_1_c1 : v1.cell? ⟨w.heap.size + 1, 1, none⟩ = some (.int .i16 y1) := (By_1.cell 1).trans rfl
    have y_1_f1 := By_1.frozen 1
    go_wp2_with fail
    (with_reducible refine (HN.out _).mono ?_); rintro e v2 ⟨rfl, hb2⟩
    have st2 := bl_step (bl_alloc (Below.refl _ _) _) hb2
    have bl2 := bl_step bl1 st2
    have Ba_2 : Blk v2 (v1.heap.size) 23 #[.int .i64 a, .int .i64 b] := (Blk.new _ _ _).below hb2
    clear x_1_z x_1_c0 x_1_f0 x_1_c1 x_1_f1
    have Bx_2 := Bx_1.below st2
    clear y_1_z y_1_c0 y_1_f0 y_1_c1 y_1_f1
    have By_2 := By_1.below st2
    have x_2_z : w.heap.size < v2.heap.size := Bx_2.lt
    have x_2_c0 : v2.cell? ⟨w.heap.size, 0, none⟩ = some (.int .i16 x0) := (Bx_2.cell 0).trans rfl
    have x_2_f0 := Bx_2.frozen 0
    have x_2_c1 : v2.cell? ⟨w.heap.size, 1, none⟩ = some (.int .i16 x1) := (Bx_2.cell 1).trans rfl
    have x_2_f1 := Bx_2.frozen 1
    have y_2_z : w.heap.size + 1 < v2.heap.size := By_2.lt
    have y_2_c0 : v2.cell? ⟨w.heap.size + 1, 0, none⟩ = some (.int .i16 y0) := (By_2.cell 0).trans rfl
    have y_2_f0 := By_2.frozen 0
    have y_2_c1 : v2.cell? ⟨w.heap.size + 1, 1, none⟩ = some (.int .i16 y1) := (By_2.cell 1).trans rfl
    have y_2_f1 := By_2.frozen 1
    have a_2_z : v1.heap.size < v2.heap.size := Ba_2.lt
    have a_2_c0 : v2.cell? ⟨v1.heap.size, 0, none⟩ = some (.int .i64 a) := (Ba_2.cell 0).trans rfl
    have a_2_f0 := Ba_2.frozen 0
    have a_2_c1 : v2.cell? ⟨v1.heap.size, 1, none⟩ = some (.int .i64 b) := (Ba_2.cell 1).trans rfl
    have a_2_f1 := Ba_2.frozen 1
    go_wp2_with fail
    (with_reducible refine (HW.out _ (bl_alloc bl2 _)).mono ?_); rintro e v3 ⟨rfl, hb3⟩
    have st3 := bl_step (bl_alloc (Below.refl _ _) _) hb3
    have bl3 := bl_step bl2 st3
    have Bb_3 : Blk v3 (v2.heap.size) 23 #[.int .i64 c, .int .i64 d] := (Blk.new _ _ _).below hb3
    clear x_2_z x_2_c0 x_2_f0 x_2_c1 x_2_f1
    have Bx_3 := Bx_2.below st3
    clear y_2_z y_2_c0 y_2_f0 y_2_c1 y_2_f1
    have By_3 := By_2.below st3
    clear a_2_z a_2_c0 a_2_f0 a_2_c1 a_2_f1
    have Ba_3 := Ba_2.below st3
    have x_3_z : w.heap.size < v3.heap.size := Bx_3.lt
    have x_3_c0 : v3.cell? ⟨w.heap.size, 0, none⟩ = some (.int .i16 x0) := (Bx_3.cell 0).trans rfl
    have x_3_f0 := Bx_3.frozen 0
    have x_3_c1 : v3.cell? ⟨w.heap.size, 1, none⟩ = some (.int .i16 x1) := (Bx_3.cell 1).trans rfl
    have x_3_f1 := Bx_3.frozen 1
    have y_3_z : w.heap.size + 1 < v3.heap.size := By_3.lt
    have y_3_c0 : v3.cell? ⟨w.heap.size + 1, 0, none⟩ = some (.int .i16 y0) := (By_3.cell 0).trans rfl
    have y_3_f0 := By_3.frozen 0
    have y_3_c1 : v3.cell? ⟨w.heap.size + 1, 1, none⟩ = some (.int .i16 y1) := (By_3.cell 1).trans rfl
    have y_3_f1 := By_3.frozen 1
    have a_3_z : v1.heap.size < v3.heap.size := Ba_3.lt
    have a_3_c0 : v3.cell? ⟨v1.heap.size, 0, none⟩ = some (.int .i64 a) := (Ba_3.cell 0).trans rfl
    have a_3_f0 := Ba_3.frozen 0
    have a_3_c1 : v3.cell? ⟨v1.heap.size, 1, none⟩ = some (.int .i64 b) := (Ba_3.cell 1).trans rfl
    have a_3_f1 := Ba_3.frozen 1
    have b_3_z : v2.heap.size < v3.heap.size := Bb_3.lt
    have b_3_c0 : v3.cell? ⟨v2.heap.size, 0, none⟩ = some (.int .i64 c) := (Bb_3.cell 0).trans rfl
    have b_3_f0 := Bb_3.frozen 0
    have b_3_c1 : v3.cell? ⟨v2.heap.size, 1, none⟩ = some (.int .i64 d) := (Bb_3.cell 1).trans rfl
    have b_3_f1 := Bb_3.frozen 1
    go_wp2
    go_ret
    exact ⟨rfl, bl3⟩
  · replace SA := SA rfl
    replace SB := SB rfl
    go_enter Tryd.func9, Tryd.ntmps9
    go_wp2_with fail
    (with_reducible refine (HM.out _).mono ?_); rintro e v1 ⟨rfl, hb1⟩
    have st1 := bl_step (bl_alloc (bl_alloc (Below.refl _ _) _) _) hb1
    have bl1 := st1
    have Bx_1 : Blk v1 (w.heap.size) 52 #[.int .i16 x0, .int .i16 x1] := ((Blk.new _ _ _).alloc _).below hb1
    have By_1 : Blk v1 (w.heap.size + 1) 52 #[.int .i16 y0, .int .i16 y1] := (Blk.new' (by simp) _ _).below hb1
    have x_1_z : w.heap.size < v1.heap.size := Bx_1.lt
    have x_1_c0 : v1.cell? ⟨w.heap.size, 0, none⟩ = some (.int .i16 x0) := (Bx_1.cell 0).trans rfl
    have x_1_f0 := Bx_1.frozen 0
    have x_1_c1 : v1.cell? ⟨w.heap.size, 1, none⟩ = some (.int .i16 x1) := (Bx_1.cell 1).trans rfl
    have x_1_f1 := Bx_1.frozen 1
    have y_1_z : w.heap.size + 1 < v1.heap.size := By_1.lt
    have y_1_c0 : v1.cell? ⟨w.heap.size + 1, 0, none⟩ = some (.int .i16 y0) := (By_1.cell 0).trans rfl
    have y_1_f0 := By_1.frozen 0
    have y_1_c1 : v1.cell? ⟨w.heap.size + 1, 1, none⟩ = some (.int .i16 y1) := (By_1.cell 1).trans rfl
    have y_1_f1 := By_1.frozen 1
    go_wp2_with fail
    (with_reducible refine (HN.out _).mono ?_); rintro e v2 ⟨rfl, hb2⟩
    have st2 := bl_step (bl_alloc (Below.refl _ _) _) hb2
    have bl2 := bl_step bl1 st2
    have Ba_2 : Blk v2 (v1.heap.size) 23 #[.int .i64 a, .int .i64 b] := (Blk.new _ _ _).below hb2
    clear x_1_z x_1_c0 x_1_f0 x_1_c1 x_1_f1
    have Bx_2 := Bx_1.below st2
    clear y_1_z y_1_c0 y_1_f0 y_1_c1 y_1_f1
    have By_2 := By_1.below st2
    have x_2_z : w.heap.size < v2.heap.size := Bx_2.lt
    have x_2_c0 : v2.cell? ⟨w.heap.size, 0, none⟩ = some (.int .i16 x0) := (Bx_2.cell 0).trans rfl
    have x_2_f0 := Bx_2.frozen 0
    have x_2_c1 : v2.cell? ⟨w.heap.size, 1, none⟩ = some (.int .i16 x1) := (Bx_2.cell 1).trans rfl
    have x_2_f1 := Bx_2.frozen 1
    have y_2_z : w.heap.size + 1 < v2.heap.size := By_2.lt
    have y_2_c0 : v2.cell? ⟨w.heap.size + 1, 0, none⟩ = some (.int .i16 y0) := (By_2.cell 0).trans rfl
    have y_2_f0 := By_2.frozen 0
    have y_2_c1 : v2.cell? ⟨w.heap.size + 1, 1, none⟩ = some (.int .i16 y1) := (By_2.cell 1).trans rfl
    have y_2_f1 := By_2.frozen 1
    have a_2_z : v1.heap.size < v2.heap.size := Ba_2.lt
    have a_2_c0 : v2.cell? ⟨v1.heap.size, 0, none⟩ = some (.int .i64 a) := (Ba_2.cell 0).trans rfl
    have a_2_f0 := Ba_2.frozen 0
    have a_2_c1 : v2.cell? ⟨v1.heap.size, 1, none⟩ = some (.int .i64 b) := (Ba_2.cell 1).trans rfl
    have a_2_f1 := Ba_2.frozen 1
    go_wp2_with fail
    have Nx_2 : Blk (v2.alloc (.cells #[.int .i64 c, .int .i64 d] 23)) (w.heap.size) 52 #[.int .i16 x0, .int .i16 x1] := (Bx_2.alloc _)
    clear x_2_z x_2_c0 x_2_f0 x_2_c1 x_2_f1
    have Ny_2 : Blk (v2.alloc (.cells #[.int .i64 c, .int .i64 d] 23)) (w.heap.size + 1) 52 #[.int .i16 y0, .int .i16 y1] := (By_2.alloc _)
    clear y_2_z y_2_c0 y_2_f0 y_2_c1 y_2_f1
    have Na_2 : Blk (v2.alloc (.cells #[.int .i64 c, .int .i64 d] 23)) (v1.heap.size) 23 #[.int .i64 a, .int .i64 b] := (Ba_2.alloc _)
    clear a_2_z a_2_c0 a_2_f0 a_2_c1 a_2_f1
    have Nb_2 : Blk (v2.alloc (.cells #[.int .i64 c, .int .i64 d] 23)) (v2.heap.size) 23 #[.int .i64 c, .int .i64 d] := (Blk.new _ _ _)
    have bl2 := bl_alloc (bl2) (.cells #[.int .i64 c, .int .i64 d] 23)
    generalize v2.alloc (.cells #[.int .i64 c, .int .i64 d] 23) = vw2 at Nx_2 Ny_2 Na_2 Nb_2 bl2 ⊢
    have x_n2_z : w.heap.size < vw2.heap.size := Nx_2.lt
    have x_n2_c0 : vw2.cell? ⟨w.heap.size, 0, none⟩ = some (.int .i16 x0) := (Nx_2.cell 0).trans rfl
    have x_n2_f0 := Nx_2.frozen 0
    have x_n2_c1 : vw2.cell? ⟨w.heap.size, 1, none⟩ = some (.int .i16 x1) := (Nx_2.cell 1).trans rfl
    have x_n2_f1 := Nx_2.frozen 1
    have y_n2_z : w.heap.size + 1 < vw2.heap.size := Ny_2.lt
    have y_n2_c0 : vw2.cell? ⟨w.heap.size + 1, 0, none⟩ = some (.int .i16 y0) := (Ny_2.cell 0).trans rfl
    have y_n2_f0 := Ny_2.frozen 0
    have y_n2_c1 : vw2.cell? ⟨w.heap.size + 1, 1, none⟩ = some (.int .i16 y1) := (Ny_2.cell 1).trans rfl
    have y_n2_f1 := Ny_2.frozen 1
    have a_n2_z : v1.heap.size < vw2.heap.size := Na_2.lt
    have a_n2_c0 : vw2.cell? ⟨v1.heap.size, 0, none⟩ = some (.int .i64 a) := (Na_2.cell 0).trans rfl
    have a_n2_f0 := Na_2.frozen 0
    have a_n2_c1 : vw2.cell? ⟨v1.heap.size, 1, none⟩ = some (.int .i64 b) := (Na_2.cell 1).trans rfl
    have a_n2_f1 := Na_2.frozen 1
    have b_n2_z : v2.heap.size < vw2.heap.size := Nb_2.lt
    have b_n2_c0 : vw2.cell? ⟨v2.heap.size, 0, none⟩ = some (.int .i64 c) := (Nb_2.cell 0).trans rfl
    have b_n2_f0 := Nb_2.frozen 0
    have b_n2_c1 : vw2.cell? ⟨v2.heap.size, 1, none⟩ = some (.int .i64 d) := (Nb_2.cell 1).trans rfl
    have b_n2_f1 := Nb_2.frozen 1
    have hlo : w.heap.size ≤ v1.heap.size := by have := hb1.size; simp at this; omega
    have hab : v1.heap.size < v2.heap.size := by have := hb2.size; simp at this; omega
    clear HM HN x_n2_z x_n2_c0 x_n2_f0 x_n2_c1 x_n2_f1 y_n2_z y_n2_c0 y_n2_f0 y_n2_c1 y_n2_f1 a_n2_z a_n2_c0 a_n2_f0 a_n2_c1 a_n2_f1 b_n2_z b_n2_c0 b_n2_f0 b_n2_c1 b_n2_f1
    go_wp2_with fail
    go_loopw [43] (fun vi wr => ∃ (i : Nat) (a b c d : Int), vi = .int .i64 i ∧ i ≤ 2 ∧ Hid (SmR a b) ∧ Hid (SmR c d) ∧ Blk wr v1.heap.size 23 #[.int .i64 a, .int .i64 b] ∧ Blk wr v2.heap.size 23 #[.int .i64 c, .int .i64 d] ∧ Below w.heap.size w wr) (fun vi _ => 2 - (intOf vi).toNat)
    case atStart => exact ⟨0, a, b, c, d, rfl, by omega, SA, SB, Na_2, Nb_2, bl2⟩
    case round =>
      clear SA SB bl2 Na_2 Nb_2
      obtain ⟨i, a, b, c, d, rfl, hi, SA, SB, hA, hB, be⟩ := hrel
      by_cases hlt : i < 2
      · have HS := fun w => simplest_any a b c d w SA.out.in_.1 SA.out.in_.2 SB.out.in_.1 SB.out.in_.2
        have HR := fun w => bsimp_any a b c d w SA.out SB.out
        generalize (simpR a b c d).1 = n at HS HR
        generalize (simpR a b c d).2.1 = m at HS HR
        generalize (simpR a b c d).2.2 = ok at HS HR
        replace HS := Lib.hid HS
        replace HR := Lib.hid HR
        cases ok
        all_goals
          have bl60 : Below wr.heap.size wr wr := Below.refl _ _
          have a_o_z : v1.heap.size < wr.heap.size := hA.lt
          have a_o_c0 : wr.cell? ⟨v1.heap.size, 0, none⟩ = some (.int .i64 a) := (hA.cell 0).trans rfl
          have a_o_f0 := hA.frozen 0
          have a_o_c1 : wr.cell? ⟨v1.heap.size, 1, none⟩ = some (.int .i64 b) := (hA.cell 1).trans rfl
          have a_o_f1 := hA.frozen 1
          have b_o_z : v2.heap.size < wr.heap.size := hB.lt
          have b_o_c0 : wr.cell? ⟨v2.heap.size, 0, none⟩ = some (.int .i64 c) := (hB.cell 0).trans rfl
          have b_o_f0 := hB.frozen 0
          have b_o_c1 : wr.cell? ⟨v2.heap.size, 1, none⟩ = some (.int .i64 d) := (hB.cell 1).trans rfl
          have b_o_f1 := hB.frozen 1
          go_wp2_with fail
          (with_reducible refine (HS.out _).mono ?_); rintro e u61 ⟨rfl, hb61⟩
          have st61 := bl_step (Below.refl _ _) hb61
          have bl61 := bl_step bl60 st61
          clear a_o_z a_o_c0 a_o_f0 a_o_c1 a_o_f1
          have Ba_61 := hA.below st61
          clear b_o_z b_o_c0 b_o_f0 b_o_c1 b_o_f1
          have Bb_61 := hB.below st61
          have a_61_z : v1.heap.size < u61.heap.size := Ba_61.lt
          have a_61_c0 : u61.cell? ⟨v1.heap.size, 0, none⟩ = some (.int .i64 a) := (Ba_61.cell 0).trans rfl
          have a_61_f0 := Ba_61.frozen 0
          have a_61_c1 : u61.cell? ⟨v1.heap.size, 1, none⟩ = some (.int .i64 b) := (Ba_61.cell 1).trans rfl
          have a_61_f1 := Ba_61.frozen 1
          have b_61_z : v2.heap.size < u61.heap.size := Bb_61.lt
          have b_61_c0 : u61.cell? ⟨v2.heap.size, 0, none⟩ = some (.int .i64 c) := (Bb_61.cell 0).trans rfl
          have b_61_f0 := Bb_61.frozen 0
          have b_61_c1 : u61.cell? ⟨v2.heap.size, 1, none⟩ = some (.int .i64 d) := (Bb_61.cell 1).trans rfl
          have b_61_f1 := Bb_61.frozen 1
          go_wp2_with fail
          (with_reducible refine (HR.out _).mono ?_); rintro e u62 ⟨rfl, hb62⟩
          have st62 := bl_step (bl_alloc (Below.refl _ _) _) hb62
          have bl62 := bl_step bl61 st62
          have Br_62 : Blk u62 (u61.heap.size) 23 #[.int .i64 n, .int .i64 m] := (Blk.new _ _ _).below hb62
          clear a_61_z a_61_c0 a_61_f0 a_61_c1 a_61_f1
          have Ba_62 := Ba_61.below st62
          clear b_61_z b_61_c0 b_61_f0 b_61_c1 b_61_f1
          have Bb_62 := Bb_61.below st62
          have a_62_z : v1.heap.size < u62.heap.size := Ba_62.lt
          have a_62_c0 : u62.cell? ⟨v1.heap.size, 0, none⟩ = some (.int .i64 a) := (Ba_62.cell 0).trans rfl
          have a_62_f0 := Ba_62.frozen 0
          have a_62_c1 : u62.cell? ⟨v1.heap.size, 1, none⟩ = some (.int .i64 b) := (Ba_62.cell 1).trans rfl
          have a_62_f1 := Ba_62.frozen 1
          have b_62_z : v2.heap.size < u62.heap.size := Bb_62.lt
          have b_62_c0 : u62.cell? ⟨v2.heap.size, 0, none⟩ = some (.int .i64 c) := (Bb_62.cell 0).trans rfl
          have b_62_f0 := Bb_62.frozen 0
          have b_62_c1 : u62.cell? ⟨v2.heap.size, 1, none⟩ = some (.int .i64 d) := (Bb_62.cell 1).trans rfl
          have b_62_f1 := Bb_62.frozen 1
          have r_62_z : u61.heap.size < u62.heap.size := Br_62.lt
          have r_62_c0 : u62.cell? ⟨u61.heap.size, 0, none⟩ = some (.int .i64 n) := (Br_62.cell 0).trans rfl
          have r_62_f0 := Br_62.frozen 0
          have r_62_c1 : u62.cell? ⟨u61.heap.size, 1, none⟩ = some (.int .i64 m) := (Br_62.cell 1).trans rfl
          have r_62_f1 := Br_62.frozen 1
          have hA' := Ba_62
          have hB' := Bb_62
          go_wp2_with fail
          go_roundw
          case rel => exact ⟨i + 1, c, d, a, b, by go_num, by omega, SB, SA, ((((hA'.put 0 _ rfl).put 1 _ rfl).far (p := ⟨v2.heap.size, 0, none⟩) (by simp; omega) _).far (p := ⟨v2.heap.size, 1, none⟩) (by simp; omega) _), (((hB'.far (p := ⟨v1.heap.size, 0, none⟩) (by simp; omega) _).far (p := ⟨v1.heap.size, 1, none⟩) (by simp; omega) _).put 0 _ rfl).put 1 _ rfl, bl_set (bl_set (bl_set (bl_set (bl_step be bl62) (by simp; omega) _) (by simp; omega) _) (by simp; omega) _) (by simp; omega) _⟩
          case measure => simp only [intOf]; omega
      · go_wp2_with fail
        refine (HW.out _ be).mono ?_; rintro e q1 ⟨rfl, hq1⟩
        have blq := bl_step be hq1
        go_wp2
        go_ret
        exact ⟨rfl, blq⟩
end Go.Proofs.YtkdklmkcanjjfaaDoor
