/- The walks of ratio, part G: the lists of ratios of the statements. -/
import Derived.Test.YtkdklmkcanjjfaaDoorRatF
import Derived.Test.YtkdklmkcanjjfaaDoorMem2
namespace Go.Proofs.YtkdklmkcanjjfaaDoor
open Go.RowKit
set_option linter.unusedVariables false
set_option linter.unusedSimpArgs false
set_option maxRecDepth 100000

/-- The ratios of raw numbers, and the made one. -/
def rsOf (n d : Int) : List (Int × Int) := (n, d) :: (if mkB n d = true then [(mkN n d, mkD n d)] else [])
theorem rsOf_len (n d : Int) : 0 < (rsOf n d).length ∧ (rsOf n d).length ≤ 2 := by unfold rsOf; split <;> simp
theorem mk_in (n d : Int) : InI (mkN n d) ∧ InI (mkD n d) := by
  unfold mkN mkD
  cases h : mkB n d
  · rw [if_neg (by decide), if_neg (by decide)]; exact ⟨⟨by decide, by decide⟩, ⟨by decide, by decide⟩⟩
  · unfold mkB at h
    simp only [Bool.and_eq_true] at h
    rw [if_pos rfl, if_pos rfl]
    exact ⟨fitB_iff.1 h.2.1, fitB_iff.1 h.2.2⟩
theorem rsOf_in {n d : Int} (i0 : InI n) (i1 : InI d) : ∀ p ∈ rsOf n d, InI p.1 ∧ InI p.2 := by
  intro p hp
  unfold rsOf at hp
  split at hp
  · simp at hp
    rcases hp with rfl | rfl
    · exact ⟨i0, i1⟩
    · exact mk_in n d
  · simp at hp; subst hp; exact ⟨i0, i1⟩
theorem size_alloc1 (w : World) (o : Obj) : (w.alloc o).heap.size = w.heap.size + 1 := by simp
theorem info_rat : (Tryd.prog.info? 23).map (fun i => (i.zero, i.size, i.bytes)) = some (some (.agg #[.int .i64 0, .int .i64 0]), 2, 16) := by kernel_rfl
set_option maxHeartbeats 3200000 in
theorem some_any (x0 x1 : Int) (w : World) (i0 : InI x0) (i1 : InI x1) :
    Calls Tryd.prog 17 #[.agg #[.int .i64 x0, .int .i64 x1]] w fun e w' => ∃ v, e = .returned v ∧ w'.ownsRow w.heap.size 23 2 v (rsOf x0 x1).length (flat (rsOf x0 x1)) ∧ Below w.heap.size w w' := by
  have HM := Lib.hid (fun w => rmake_any x0 x1 w i0 i1)
  unfold rsOf
  generalize mkN x0 x1 = n at HM ⊢
  generalize mkD x0 x1 = d at HM ⊢
  cases hx : mkB x0 x1
  · rw [hx] at HM
    clear hx
    go_enter Tryd.func17, Tryd.ntmps17
    go_wp2_with fail
    refine (HM.out _).mono ?_; rintro e v1 ⟨rfl, hb1⟩
    have st1 := bl_step (bl_alloc (bl_alloc (Below.refl _ _) _) _) hb1
    have bl1 := st1
    have Bx_1 : Blk v1 (w.heap.size) 31 #[.int .i64 x0, .int .i64 x1] := ((Blk.new _ _ _).alloc _).below hb1
    have Bl_1 : Blk v1 (w.heap.size + 1) 23 #[.int .i64 x0, .int .i64 x1] := (Blk.new' (by simp) _ _).below hb1
    have x_1_z : w.heap.size < v1.heap.size := Bx_1.lt
    have x_1_c0 : v1.cell? ⟨w.heap.size, 0, none⟩ = some (.int .i64 x0) := (Bx_1.cell 0).trans rfl
    have x_1_f0 := Bx_1.frozen 0
    have x_1_c1 : v1.cell? ⟨w.heap.size, 1, none⟩ = some (.int .i64 x1) := (Bx_1.cell 1).trans rfl
    have x_1_f1 := Bx_1.frozen 1
    have l_1_z : w.heap.size + 1 < v1.heap.size := Bl_1.lt
    have l_1_c0 : v1.cell? ⟨w.heap.size + 1, 0, none⟩ = some (.int .i64 x0) := (Bl_1.cell 0).trans rfl
    have l_1_f0 := Bl_1.frozen 0
    have l_1_c1 : v1.cell? ⟨w.heap.size + 1, 1, none⟩ = some (.int .i64 x1) := (Bl_1.cell 1).trans rfl
    have l_1_f1 := Bl_1.frozen 1
    go_wp2
    go_ret
    refine ⟨_, rfl, ⟨rfl, .inr ⟨w.heap.size + 1, 1, #[.int .i64 x0, .int .i64 x1], rfl, by omega, (Bl_1.alloc _).out, by decide, by decide, rfl, rfl⟩⟩, bl_alloc bl1 _⟩
  · rw [hx] at HM
    clear hx
    go_enter Tryd.func17, Tryd.ntmps17
    go_wp2_with fail
    refine (HM.out _).mono ?_; rintro e v1 ⟨rfl, hb1⟩
    have st1 := bl_step (bl_alloc (bl_alloc (Below.refl _ _) _) _) hb1
    have bl1 := st1
    have Bx_1 : Blk v1 (w.heap.size) 31 #[.int .i64 x0, .int .i64 x1] := ((Blk.new _ _ _).alloc _).below hb1
    have Bl_1 : Blk v1 (w.heap.size + 1) 23 #[.int .i64 x0, .int .i64 x1] := (Blk.new' (by simp) _ _).below hb1
    have x_1_z : w.heap.size < v1.heap.size := Bx_1.lt
    have x_1_c0 : v1.cell? ⟨w.heap.size, 0, none⟩ = some (.int .i64 x0) := (Bx_1.cell 0).trans rfl
    have x_1_f0 := Bx_1.frozen 0
    have x_1_c1 : v1.cell? ⟨w.heap.size, 1, none⟩ = some (.int .i64 x1) := (Bx_1.cell 1).trans rfl
    have x_1_f1 := Bx_1.frozen 1
    have l_1_z : w.heap.size + 1 < v1.heap.size := Bl_1.lt
    have l_1_c0 : v1.cell? ⟨w.heap.size + 1, 0, none⟩ = some (.int .i64 x0) := (Bl_1.cell 0).trans rfl
    have l_1_f0 := Bl_1.frozen 0
    have l_1_c1 : v1.cell? ⟨w.heap.size + 1, 1, none⟩ = some (.int .i64 x1) := (Bl_1.cell 1).trans rfl
    have l_1_f1 := Bl_1.frozen 1
    have HO : (v1.alloc (.cells #[.int .i64 n, .int .i64 d] 23)).ownsRow w.heap.size 23 2 (.slice (some ⟨w.heap.size + 1, 0, none⟩) 1 1) 1 [.int .i64 x0, .int .i64 x1] := ⟨rfl, .inr ⟨w.heap.size + 1, 1, #[.int .i64 x0, .int .i64 x1], rfl, by omega, (Bl_1.alloc _).out, by decide, by decide, rfl, rfl⟩⟩
    go_wp2_with (at_builtin; go_loud (refine app2 (w0 := w) rfl (.tmp 21) (.tmp 23) 32 23 _ 16 rfl Tryd.underlying32 info_rat rfl (by omega) _ 1 _ (.int .i64 n) (.int .i64 d) rfl (by rw [size_alloc1]; rfl) rfl rfl HO (bl_alloc bl1 _) (by omega) ?_); intro v2 w2 hown2 hb2 _ _)
    go_ret
    exact ⟨_, rfl, hown2, hb2⟩
end Go.Proofs.YtkdklmkcanjjfaaDoor
