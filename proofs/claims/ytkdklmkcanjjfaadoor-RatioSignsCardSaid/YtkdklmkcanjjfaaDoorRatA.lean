/- The walks of ratio, part A: Make, Of, Good, of the program. -/
import Derived.Test.YtkdklmkcanjjfaaDoorNumF
import Derived.Test.YtkdklmkcanjjfaaDoorRatMath
namespace Go.Proofs.YtkdklmkcanjjfaaDoor
open Go.RowKit
set_option linter.unusedVariables false
set_option linter.unusedSimpArgs false
set_option maxRecDepth 100000

theorem gcd_c (a b : Int) (w : World) (ha : InI a) (hb : InI b) :
    Calls Tryd.prog 37 #[.int .i64 a, .int .i64 b] w fun e w' => e = .returned (.tuple #[.int .i64 (fitN (gd a b)), .bool (fitB (gd a b))]) ∧ Below w.heap.size w w' := Gcd_any a b w ha hb

theorem exact_c (a g : Int) (w : World) (ha : InI a) (hg : InI g) (h0 : g ≠ 0) (h : g ∣ a) :
    Calls Tryd.prog 39 #[.int .i64 a, .int .i64 g] w fun e w' => e = .returned (.tuple #[.int .i64 (fitN (a / g)), .bool (fitB (a / g))]) ∧ Below w.heap.size w w' := by
  have HF := Lib.hid (fun w => Floor_any a g w ha hg h0)
  rw [quoR_exact h0 h false] at HF
  go_enter Tryd.func39, Tryd.ntmps39
  go_wp2_with fail
  refine (HF.out _).mono ?_; rintro e w1 ⟨rfl, hb1⟩
  go_wp2
  go_ret2
  exact ⟨rfl, hb1⟩

theorem rof_any (n : Int) (w : World) : Calls Tryd.prog 16 #[.int .i64 n] w fun e w' => e = .returned (.agg #[.int .i64 n, .int .i64 1]) ∧ Below w.heap.size w w' := by
  go_enter Tryd.func16, Tryd.ntmps16
  go_wp2
  refine bodyPost_ret (v := .agg #[.int .i64 n, .int .i64 1]) (by simp [results, Tryd.results16, go_sem]) rfl ⟨rfl, ?_⟩
  (repeat (first | exact Below.refl _ _ | with_reducible assumption | refine bl_alloc ?_ _ | refine bl_set ?_ (by simp <;> omega) _ | refine bl_drew ?_ | refine bl_drewN ?_ _ | refine bl_step ?_ (by assumption)))
theorem least_same (n d : Int) (w : World) (h : (n == d) = true) : Calls Tryd.prog 38 #[.int .i64 n, .int .i64 d] w fun e w' => e = .returned (.tuple #[.agg #[.int .i64 1, .int .i64 1], .bool true]) ∧ Below w.heap.size w w' := by
  go_enter Tryd.func38, Tryd.ntmps38
  go_wp2_with fail
  refine (rof_any _ _).mono ?_; rintro e v1 ⟨rfl, hb1⟩
  have st1 := bl_step (bl_alloc (Below.refl _ _) _) hb1
  have bl1 := st1
  have Br_1 : Blk v1 (w.heap.size) 23 #[.int .i64 0, .int .i64 0] := (Blk.new _ _ _).below hb1
  have r_1_z : w.heap.size < v1.heap.size := Br_1.lt
  have r_1_c0 : v1.cell? ⟨w.heap.size, 0, none⟩ = some (.int .i64 0) := (Br_1.cell 0).trans rfl
  have r_1_f0 := Br_1.frozen 0
  have r_1_c1 : v1.cell? ⟨w.heap.size, 1, none⟩ = some (.int .i64 0) := (Br_1.cell 1).trans rfl
  have r_1_f1 := Br_1.frozen 1
  go_wp2
  refine bodyPost_ret (v := .tuple #[.agg #[.int .i64 1, .int .i64 1], .bool true]) (by simp [results, Tryd.results38, go_sem, r_1_c0, r_1_f0, r_1_c1, r_1_f1]) rfl ⟨rfl, ?_⟩
  (repeat (first | exact Below.refl _ _ | with_reducible assumption | refine bl_alloc ?_ _ | refine bl_set ?_ (by simp <;> omega) _ | refine bl_drew ?_ | refine bl_drewN ?_ _ | refine bl_step ?_ (by assumption)))
theorem least_nought (n d : Int) (w : World) (h : (n == d) = false) (h0 : (n == 0) = true) : Calls Tryd.prog 38 #[.int .i64 n, .int .i64 d] w fun e w' => e = .returned (.tuple #[.agg #[.int .i64 0, .int .i64 1], .bool true]) ∧ Below w.heap.size w w' := by
  go_enter Tryd.func38, Tryd.ntmps38
  go_wp2_with fail
  refine (rof_any _ _).mono ?_; rintro e v1 ⟨rfl, hb1⟩
  have st1 := bl_step (bl_alloc (Below.refl _ _) _) hb1
  have bl1 := st1
  have Br_1 : Blk v1 (w.heap.size) 23 #[.int .i64 0, .int .i64 0] := (Blk.new _ _ _).below hb1
  have r_1_z : w.heap.size < v1.heap.size := Br_1.lt
  have r_1_c0 : v1.cell? ⟨w.heap.size, 0, none⟩ = some (.int .i64 0) := (Br_1.cell 0).trans rfl
  have r_1_f0 := Br_1.frozen 0
  have r_1_c1 : v1.cell? ⟨w.heap.size, 1, none⟩ = some (.int .i64 0) := (Br_1.cell 1).trans rfl
  have r_1_f1 := Br_1.frozen 1
  go_wp2
  refine bodyPost_ret (v := .tuple #[.agg #[.int .i64 0, .int .i64 1], .bool true]) (by simp [results, Tryd.results38, go_sem, r_1_c0, r_1_f0, r_1_c1, r_1_f1]) rfl ⟨rfl, ?_⟩
  (repeat (first | exact Below.refl _ _ | with_reducible assumption | refine bl_alloc ?_ _ | refine bl_set ?_ (by simp <;> omega) _ | refine bl_drew ?_ | refine bl_drewN ?_ _ | refine bl_step ?_ (by assumption)))
theorem rmake_zero (n : Int) (w : World) : Calls Tryd.prog 11 #[.int .i64 n, .int .i64 0] w fun e w' => e = .returned (.tuple #[.agg #[.int .i64 (mkN n 0), .int .i64 (mkD n 0)], .bool (mkB n 0)]) ∧ Below w.heap.size w w' := by
  go_enter Tryd.func11, Tryd.ntmps11
  go_wp2
  refine bodyPost_ret (v := .tuple #[.agg #[.int .i64 0, .int .i64 0], .bool false]) (by simp [results, Tryd.results11, go_sem]) rfl ⟨rfl, ?_⟩
  (repeat (first | exact Below.refl _ _ | with_reducible assumption | refine bl_alloc ?_ _ | refine bl_set ?_ (by simp <;> omega) _ | refine bl_drew ?_ | refine bl_drewN ?_ _ | refine bl_step ?_ (by assumption)))
set_option maxHeartbeats 800000 in
theorem rmake_wide (n d a : Int) (w : World) (hn : InI n) (hd : InI d) (h0 : (d == 0) = false) (hp : fitB (gd n d) = false)
    (HL : Hid (∀ w, Calls Tryd.prog 38 #[.int .i64 n, .int .i64 d] w fun e w' => e = .returned (.tuple #[.agg #[.int .i64 a, .int .i64 1], .bool true]) ∧ Below w.heap.size w w')) :
    Calls Tryd.prog 11 #[.int .i64 n, .int .i64 d] w fun e w' => e = .returned (.tuple #[.agg #[.int .i64 a, .int .i64 1], .bool true]) ∧ Below w.heap.size w w' := by
  have HG := Lib.hid (fun w => gcd_c n d w hn hd)
  rw [hp] at HG
  generalize fitN (gd n d) = g at HG
  clear hp
  go_enter Tryd.func11, Tryd.ntmps11
  go_wp2_with fail
  refine (HG.out _).mono ?_; rintro e v1 ⟨rfl, hb1⟩
  have st1 := bl_step (bl_alloc (Below.refl _ _) _) hb1
  have bl1 := st1
  have Br_1 : Blk v1 (w.heap.size) 23 #[.int .i64 0, .int .i64 0] := (Blk.new _ _ _).below hb1
  have r_1_z : w.heap.size < v1.heap.size := Br_1.lt
  have r_1_c0 : v1.cell? ⟨w.heap.size, 0, none⟩ = some (.int .i64 0) := (Br_1.cell 0).trans rfl
  have r_1_f0 := Br_1.frozen 0
  have r_1_c1 : v1.cell? ⟨w.heap.size, 1, none⟩ = some (.int .i64 0) := (Br_1.cell 1).trans rfl
  have r_1_f1 := Br_1.frozen 1
  go_wp2_with fail
  refine (HL.out _).mono ?_; rintro e v2 ⟨rfl, hb2⟩
  have st2 := bl_step (Below.refl _ _) hb2
  have bl2 := bl_step bl1 st2
  clear r_1_z r_1_c0 r_1_f0 r_1_c1 r_1_f1
  have Br_2 := Br_1.below st2
  have r_2_z : w.heap.size < v2.heap.size := Br_2.lt
  have r_2_c0 : v2.cell? ⟨w.heap.size, 0, none⟩ = some (.int .i64 0) := (Br_2.cell 0).trans rfl
  have r_2_f0 := Br_2.frozen 0
  have r_2_c1 : v2.cell? ⟨w.heap.size, 1, none⟩ = some (.int .i64 0) := (Br_2.cell 1).trans rfl
  have r_2_f1 := Br_2.frozen 1
  go_wp2
  refine bodyPost_ret (v := .tuple #[.agg #[.int .i64 a, .int .i64 1], .bool true]) (by simp [results, Tryd.results11, go_sem, r_2_c0, r_2_f0, r_2_c1, r_2_f1]) rfl ⟨rfl, ?_⟩
  (repeat (first | exact Below.refl _ _ | with_reducible assumption | refine bl_alloc ?_ _ | refine bl_set ?_ (by simp <;> omega) _ | refine bl_drew ?_ | refine bl_drewN ?_ _ | refine bl_step ?_ (by assumption)))
set_option maxHeartbeats 1600000 in
theorem rmake_neg (n d g : Int) (w : World) (hn : InI n) (hd : InI d) (h0 : (d == 0) = false) (hlt : d < 0) (hg : gd n d = g) (hf : InI g) (g0 : 0 < g) (x y : Bool) (p q : Int)
    (HE : Hid (∀ w, Calls Tryd.prog 39 #[.int .i64 n, .int .i64 (-g)] w fun e w' => e = .returned (.tuple #[.int .i64 p, .bool x]) ∧ Below w.heap.size w w'))
    (HF : Hid (∀ w, Calls Tryd.prog 39 #[.int .i64 d, .int .i64 (-g)] w fun e w' => e = .returned (.tuple #[.int .i64 q, .bool y]) ∧ Below w.heap.size w w')) :
    Calls Tryd.prog 11 #[.int .i64 n, .int .i64 d] w fun e w' => e = .returned (.tuple #[.agg #[.int .i64 (if (x && y) = true then p else 0), .int .i64 (if (x && y) = true then q else 0)], .bool (x && y)]) ∧ Below w.heap.size w w' := by
  have HG := Lib.hid (fun w => gcd_c n d w hn hd)
  rw [hg, fitN_of hf, fitB_iff.2 hf] at HG
  obtain ⟨f1, f2⟩ := hf
  clear hg
  go_enter Tryd.func11, Tryd.ntmps11
  go_wp2_with fail
  refine (HG.out _).mono ?_; rintro e v1 ⟨rfl, hb1⟩
  have st1 := bl_step (bl_alloc (Below.refl _ _) _) hb1
  have bl1 := st1
  have Br_1 : Blk v1 (w.heap.size) 23 #[.int .i64 0, .int .i64 0] := (Blk.new _ _ _).below hb1
  have r_1_z : w.heap.size < v1.heap.size := Br_1.lt
  have r_1_c0 : v1.cell? ⟨w.heap.size, 0, none⟩ = some (.int .i64 0) := (Br_1.cell 0).trans rfl
  have r_1_f0 := Br_1.frozen 0
  have r_1_c1 : v1.cell? ⟨w.heap.size, 1, none⟩ = some (.int .i64 0) := (Br_1.cell 1).trans rfl
  have r_1_f1 := Br_1.frozen 1
  go_wp2_with fail
  refine (HE.out _).mono ?_; rintro e v2 ⟨rfl, hb2⟩
  have st2 := bl_step (Below.refl _ _) hb2
  have bl2 := bl_step bl1 st2
  clear r_1_z r_1_c0 r_1_f0 r_1_c1 r_1_f1
  have Br_2 := Br_1.below st2
  have r_2_z : w.heap.size < v2.heap.size := Br_2.lt
  have r_2_c0 : v2.cell? ⟨w.heap.size, 0, none⟩ = some (.int .i64 0) := (Br_2.cell 0).trans rfl
  have r_2_f0 := Br_2.frozen 0
  have r_2_c1 : v2.cell? ⟨w.heap.size, 1, none⟩ = some (.int .i64 0) := (Br_2.cell 1).trans rfl
  have r_2_f1 := Br_2.frozen 1
  go_wp2_with fail
  refine (HF.out _).mono ?_; rintro e v3 ⟨rfl, hb3⟩
  have st3 := bl_step (Below.refl _ _) hb3
  have bl3 := bl_step bl2 st3
  clear r_2_z r_2_c0 r_2_f0 r_2_c1 r_2_f1
  have Br_3 := Br_2.below st3
  have r_3_z : w.heap.size < v3.heap.size := Br_3.lt
  have r_3_c0 : v3.cell? ⟨w.heap.size, 0, none⟩ = some (.int .i64 0) := (Br_3.cell 0).trans rfl
  have r_3_f0 := Br_3.frozen 0
  have r_3_c1 : v3.cell? ⟨w.heap.size, 1, none⟩ = some (.int .i64 0) := (Br_3.cell 1).trans rfl
  have r_3_f1 := Br_3.frozen 1
  cases x <;> cases y
  · go_wp2
    refine bodyPost_ret (v := .tuple #[.agg #[.int .i64 0, .int .i64 0], .bool false]) (by simp [results, Tryd.results11, go_sem, r_3_c0, r_3_f0, r_3_c1, r_3_f1]) rfl ⟨rfl, ?_⟩
    (repeat (first | exact Below.refl _ _ | with_reducible assumption | refine bl_alloc ?_ _ | refine bl_set ?_ (by simp <;> omega) _ | refine bl_drew ?_ | refine bl_drewN ?_ _ | refine bl_step ?_ (by assumption)))
  · go_wp2
    refine bodyPost_ret (v := .tuple #[.agg #[.int .i64 0, .int .i64 0], .bool false]) (by simp [results, Tryd.results11, go_sem, r_3_c0, r_3_f0, r_3_c1, r_3_f1]) rfl ⟨rfl, ?_⟩
    (repeat (first | exact Below.refl _ _ | with_reducible assumption | refine bl_alloc ?_ _ | refine bl_set ?_ (by simp <;> omega) _ | refine bl_drew ?_ | refine bl_drewN ?_ _ | refine bl_step ?_ (by assumption)))
  · go_wp2
    refine bodyPost_ret (v := .tuple #[.agg #[.int .i64 0, .int .i64 0], .bool false]) (by simp [results, Tryd.results11, go_sem, r_3_c0, r_3_f0, r_3_c1, r_3_f1]) rfl ⟨rfl, ?_⟩
    (repeat (first | exact Below.refl _ _ | with_reducible assumption | refine bl_alloc ?_ _ | refine bl_set ?_ (by simp <;> omega) _ | refine bl_drew ?_ | refine bl_drewN ?_ _ | refine bl_step ?_ (by assumption)))
  · go_wp2
    refine bodyPost_ret (v := .tuple #[.agg #[.int .i64 p, .int .i64 q], .bool true]) (by simp [results, Tryd.results11, go_sem, r_3_c0, r_3_f0, r_3_c1, r_3_f1]) rfl ⟨rfl, ?_⟩
    (repeat (first | exact Below.refl _ _ | with_reducible assumption | refine bl_alloc ?_ _ | refine bl_set ?_ (by simp <;> omega) _ | refine bl_drew ?_ | refine bl_drewN ?_ _ | refine bl_step ?_ (by assumption)))
set_option maxHeartbeats 1600000 in
theorem rmake_pos (n d g : Int) (w : World) (hn : InI n) (hd : InI d) (h0 : (d == 0) = false) (hlt : 0 < d) (hg : gd n d = g) (hf : InI g) (g0 : 0 < g) (x y : Bool) (p q : Int)
    (HE : Hid (∀ w, Calls Tryd.prog 39 #[.int .i64 n, .int .i64 g] w fun e w' => e = .returned (.tuple #[.int .i64 p, .bool x]) ∧ Below w.heap.size w w'))
    (HF : Hid (∀ w, Calls Tryd.prog 39 #[.int .i64 d, .int .i64 g] w fun e w' => e = .returned (.tuple #[.int .i64 q, .bool y]) ∧ Below w.heap.size w w')) :
    Calls Tryd.prog 11 #[.int .i64 n, .int .i64 d] w fun e w' => e = .returned (.tuple #[.agg #[.int .i64 (if (x && y) = true then p else 0), .int .i64 (if (x && y) = true then q else 0)], .bool (x && y)]) ∧ Below w.heap.size w w' := by
  have HG := Lib.hid (fun w => gcd_c n d w hn hd)
  rw [hg, fitN_of hf, fitB_iff.2 hf] at HG
  obtain ⟨f1, f2⟩ := hf
  clear hg
  go_enter Tryd.func11, Tryd.ntmps11
  go_wp2_with fail
  refine (HG.out _).mono ?_; rintro e v1 ⟨rfl, hb1⟩
  have st1 := bl_step (bl_alloc (Below.refl _ _) _) hb1
  have bl1 := st1
  have Br_1 : Blk v1 (w.heap.size) 23 #[.int .i64 0, .int .i64 0] := (Blk.new _ _ _).below hb1
  have r_1_z : w.heap.size < v1.heap.size := Br_1.lt
  have r_1_c0 : v1.cell? ⟨w.heap.size, 0, none⟩ = some (.int .i64 0) := (Br_1.cell 0).trans rfl
  have r_1_f0 := Br_1.frozen 0
  have r_1_c1 : v1.cell? ⟨w.heap.size, 1, none⟩ = some (.int .i64 0) := (Br_1.cell 1).trans rfl
  have r_1_f1 := Br_1.frozen 1
  go_wp2_with fail
  refine (HE.out _).mono ?_; rintro e v2 ⟨rfl, hb2⟩
  have st2 := bl_step (Below.refl _ _) hb2
  have bl2 := bl_step bl1 st2
  clear r_1_z r_1_c0 r_1_f0 r_1_c1 r_1_f1
  have Br_2 := Br_1.below st2
  have r_2_z : w.heap.size < v2.heap.size := Br_2.lt
  have r_2_c0 : v2.cell? ⟨w.heap.size, 0, none⟩ = some (.int .i64 0) := (Br_2.cell 0).trans rfl
  have r_2_f0 := Br_2.frozen 0
  have r_2_c1 : v2.cell? ⟨w.heap.size, 1, none⟩ = some (.int .i64 0) := (Br_2.cell 1).trans rfl
  have r_2_f1 := Br_2.frozen 1
  go_wp2_with fail
  refine (HF.out _).mono ?_; rintro e v3 ⟨rfl, hb3⟩
  have st3 := bl_step (Below.refl _ _) hb3
  have bl3 := bl_step bl2 st3
  clear r_2_z r_2_c0 r_2_f0 r_2_c1 r_2_f1
  have Br_3 := Br_2.below st3
  have r_3_z : w.heap.size < v3.heap.size := Br_3.lt
  have r_3_c0 : v3.cell? ⟨w.heap.size, 0, none⟩ = some (.int .i64 0) := (Br_3.cell 0).trans rfl
  have r_3_f0 := Br_3.frozen 0
  have r_3_c1 : v3.cell? ⟨w.heap.size, 1, none⟩ = some (.int .i64 0) := (Br_3.cell 1).trans rfl
  have r_3_f1 := Br_3.frozen 1
  cases x <;> cases y
  · go_wp2
    refine bodyPost_ret (v := .tuple #[.agg #[.int .i64 0, .int .i64 0], .bool false]) (by simp [results, Tryd.results11, go_sem, r_3_c0, r_3_f0, r_3_c1, r_3_f1]) rfl ⟨rfl, ?_⟩
    (repeat (first | exact Below.refl _ _ | with_reducible assumption | refine bl_alloc ?_ _ | refine bl_set ?_ (by simp <;> omega) _ | refine bl_drew ?_ | refine bl_drewN ?_ _ | refine bl_step ?_ (by assumption)))
  · go_wp2
    refine bodyPost_ret (v := .tuple #[.agg #[.int .i64 0, .int .i64 0], .bool false]) (by simp [results, Tryd.results11, go_sem, r_3_c0, r_3_f0, r_3_c1, r_3_f1]) rfl ⟨rfl, ?_⟩
    (repeat (first | exact Below.refl _ _ | with_reducible assumption | refine bl_alloc ?_ _ | refine bl_set ?_ (by simp <;> omega) _ | refine bl_drew ?_ | refine bl_drewN ?_ _ | refine bl_step ?_ (by assumption)))
  · go_wp2
    refine bodyPost_ret (v := .tuple #[.agg #[.int .i64 0, .int .i64 0], .bool false]) (by simp [results, Tryd.results11, go_sem, r_3_c0, r_3_f0, r_3_c1, r_3_f1]) rfl ⟨rfl, ?_⟩
    (repeat (first | exact Below.refl _ _ | with_reducible assumption | refine bl_alloc ?_ _ | refine bl_set ?_ (by simp <;> omega) _ | refine bl_drew ?_ | refine bl_drewN ?_ _ | refine bl_step ?_ (by assumption)))
  · go_wp2
    refine bodyPost_ret (v := .tuple #[.agg #[.int .i64 p, .int .i64 q], .bool true]) (by simp [results, Tryd.results11, go_sem, r_3_c0, r_3_f0, r_3_c1, r_3_f1]) rfl ⟨rfl, ?_⟩
    (repeat (first | exact Below.refl _ _ | with_reducible assumption | refine bl_alloc ?_ _ | refine bl_set ?_ (by simp <;> omega) _ | refine bl_drew ?_ | refine bl_drewN ?_ _ | refine bl_step ?_ (by assumption)))
theorem if_fit (p q : Int) : (if (fitB p && fitB q) = true then p else 0) = (if (fitB p && fitB q) = true then fitN p else 0) ∧ (if (fitB p && fitB q) = true then q else 0) = (if (fitB p && fitB q) = true then fitN q else 0) := by
  by_cases h : (fitB p && fitB q) = true
  · rw [if_pos h, if_pos h, if_pos h, if_pos h]; simp at h; exact ⟨(fitN_yes h.1).symm, (fitN_yes h.2).symm⟩
  · rw [if_neg h, if_neg h, if_neg h, if_neg h]; exact ⟨rfl, rfl⟩
theorem mk_parts (n d : Int) (h0 : d ≠ 0) : mkB n d = (fitB (n / rg n d) && fitB (d / rg n d)) ∧ mkN n d = (if (fitB (n / rg n d) && fitB (d / rg n d)) = true then fitN (n / rg n d) else 0) ∧ mkD n d = (if (fitB (n / rg n d) && fitB (d / rg n d)) = true then fitN (d / rg n d) else 0) := by
  have e3 : mkB n d = (fitB (n / rg n d) && fitB (d / rg n d)) := by unfold mkB; rw [decide_eq_true h0, Bool.true_and]
  refine ⟨e3, ?_, ?_⟩
  · unfold mkN; rw [e3]; exact (if_fit _ _).1
  · unfold mkD; rw [e3]; exact (if_fit _ _).2
theorem rmake_any (n d : Int) (w : World) (hn : InI n) (hd : InI d) :
    Calls Tryd.prog 11 #[.int .i64 n, .int .i64 d] w fun e w' => e = .returned (.tuple #[.agg #[.int .i64 (mkN n d), .int .i64 (mkD n d)], .bool (mkB n d)]) ∧ Below w.heap.size w w' := by
  by_cases h0 : d = 0
  · subst h0; exact rmake_zero n w
  · have hb0 : (d == 0) = false := by simpa using h0
    by_cases hf : InI (gd n d)
    · have g0 := gd_pos n h0
      have hng : InI (-gd n d) := ⟨by obtain ⟨_, h2⟩ := hf; omega, by omega⟩
      obtain ⟨e1, e2, e3⟩ := mk_parts n d h0
      rw [e1, e2, e3]
      by_cases hlt : d < 0
      · have hr : rg n d = -gd n d := if_pos hlt
        rw [hr]
        exact rmake_neg n d _ w hn hd hb0 hlt rfl hf g0 _ _ _ _ (Lib.hid fun w => exact_c n _ w hn hng (by omega) (Int.neg_dvd.2 (gd_dvd_left n d))) (Lib.hid fun w => exact_c d _ w hd hng (by omega) (Int.neg_dvd.2 (gd_dvd_right n d)))
      · have hr : rg n d = gd n d := if_neg hlt
        rw [hr]
        exact rmake_pos n d _ w hn hd hb0 (by omega) rfl hf g0 _ _ _ _ (Lib.hid fun w => exact_c n _ w hn hf (by omega) (gd_dvd_left n d)) (Lib.hid fun w => exact_c d _ w hd hf (by omega) (gd_dvd_right n d))
    · obtain ⟨rfl, hn2⟩ := gd_wide hn hd h0 hf
      have hfb : fitB (gd n (-9223372036854775808)) = false := by
        cases h : fitB (gd n (-9223372036854775808))
        · rfl
        · exact absurd (fitB_iff.1 h) hf
      rcases hn2 with rfl | rfl
      · have h := rmake_wide 0 _ 0 w hn hd hb0 hfb (Lib.hid fun w => least_nought 0 _ w (by decide) (by decide))
        rw [show mkN 0 (-9223372036854775808) = 0 by decide +kernel, show mkD 0 (-9223372036854775808) = 1 by decide +kernel, show mkB 0 (-9223372036854775808) = true by decide +kernel]
        exact h
      · have h := rmake_wide (-9223372036854775808) _ 1 w hn hd hb0 hfb (Lib.hid fun w => least_same _ _ w (by decide))
        rw [show mkN (-9223372036854775808) (-9223372036854775808) = 1 by decide +kernel, show mkD (-9223372036854775808) (-9223372036854775808) = 1 by decide +kernel, show mkB (-9223372036854775808) (-9223372036854775808) = true by decide +kernel]
        exact h
theorem good_eq (n d : Int) : goodB n d = (decide (0 < d) && (fitB (gd n d) && decide (fitN (gd n d) = 1))) := by
  unfold goodB
  by_cases h : 0 < d
  · by_cases hf : InI (gd n d)
    · rw [fitN_of hf, fitB_iff.2 hf, decide_eq_true h]; simp [h]
    · have h1 : ¬ gd n d = 1 := fun h2 => hf (by rw [h2]; exact ⟨by omega, by omega⟩)
      have hfb : fitB (gd n d) = false := by
        cases hx : fitB (gd n d)
        · rfl
        · exact absurd (fitB_iff.1 hx) hf
      rw [hfb]; simp [h1]
  · rw [decide_eq_false h]; simp [h]
set_option maxHeartbeats 800000 in
theorem good_any (n d : Int) (w : World) (hn : InI n) (hd : InI d) :
    Calls Tryd.prog 14 #[.agg #[.int .i64 n, .int .i64 d]] w fun e w' => e = .returned (.bool (goodB n d)) ∧ Below w.heap.size w w' := by
  have HG := Lib.hid (fun w => gcd_c n d w hn hd)
  rw [good_eq]
  generalize fitN (gd n d) = g at HG ⊢
  generalize fitB (gd n d) = x at HG ⊢
  by_cases h : 0 < d
  · cases x
    · go_enter Tryd.func14, Tryd.ntmps14
      go_wp2_with fail
      refine (HG.out _).mono ?_; rintro e v1 ⟨rfl, hb1⟩
      have st1 := bl_step (bl_alloc (Below.refl _ _) _) hb1
      have bl1 := st1
      have Ba_1 : Blk v1 (w.heap.size) 23 #[.int .i64 n, .int .i64 d] := (Blk.new _ _ _).below hb1
      have a_1_z : w.heap.size < v1.heap.size := Ba_1.lt
      have a_1_c0 : v1.cell? ⟨w.heap.size, 0, none⟩ = some (.int .i64 n) := (Ba_1.cell 0).trans rfl
      have a_1_f0 := Ba_1.frozen 0
      have a_1_c1 : v1.cell? ⟨w.heap.size, 1, none⟩ = some (.int .i64 d) := (Ba_1.cell 1).trans rfl
      have a_1_f1 := Ba_1.frozen 1
      go_wp2
      go_ret
      exact ⟨by simp, bl1⟩
    · by_cases hg1 : g = 1
      · subst hg1
        go_enter Tryd.func14, Tryd.ntmps14
        go_wp2_with fail
        refine (HG.out _).mono ?_; rintro e v1 ⟨rfl, hb1⟩
        have st1 := bl_step (bl_alloc (Below.refl _ _) _) hb1
        have bl1 := st1
        have Ba_1 : Blk v1 (w.heap.size) 23 #[.int .i64 n, .int .i64 d] := (Blk.new _ _ _).below hb1
        have a_1_z : w.heap.size < v1.heap.size := Ba_1.lt
        have a_1_c0 : v1.cell? ⟨w.heap.size, 0, none⟩ = some (.int .i64 n) := (Ba_1.cell 0).trans rfl
        have a_1_f0 := Ba_1.frozen 0
        have a_1_c1 : v1.cell? ⟨w.heap.size, 1, none⟩ = some (.int .i64 d) := (Ba_1.cell 1).trans rfl
        have a_1_f1 := Ba_1.frozen 1
        go_wp2
        go_ret
        exact ⟨by simp [h], bl1⟩
      · have hgf : (g == 1) = false := by simpa using hg1
        have HG1 := Lib.hid hg1
        clear hg1
        go_enter Tryd.func14, Tryd.ntmps14
        go_wp2_with fail
        refine (HG.out _).mono ?_; rintro e v1 ⟨rfl, hb1⟩
        have st1 := bl_step (bl_alloc (Below.refl _ _) _) hb1
        have bl1 := st1
        have Ba_1 : Blk v1 (w.heap.size) 23 #[.int .i64 n, .int .i64 d] := (Blk.new _ _ _).below hb1
        have a_1_z : w.heap.size < v1.heap.size := Ba_1.lt
        have a_1_c0 : v1.cell? ⟨w.heap.size, 0, none⟩ = some (.int .i64 n) := (Ba_1.cell 0).trans rfl
        have a_1_f0 := Ba_1.frozen 0
        have a_1_c1 : v1.cell? ⟨w.heap.size, 1, none⟩ = some (.int .i64 d) := (Ba_1.cell 1).trans rfl
        have a_1_f1 := Ba_1.frozen 1
        go_wp2
        go_ret
        exact ⟨by have := HG1.out; simp [this], bl1⟩
  · have hd0 := Lib.hid h
    go_enter Tryd.func14, Tryd.ntmps14
    go_wp2_with fail
    refine (HG.out _).mono ?_; rintro e v1 ⟨rfl, hb1⟩
    have st1 := bl_step (bl_alloc (Below.refl _ _) _) hb1
    have bl1 := st1
    have Ba_1 : Blk v1 (w.heap.size) 23 #[.int .i64 n, .int .i64 d] := (Blk.new _ _ _).below hb1
    have a_1_z : w.heap.size < v1.heap.size := Ba_1.lt
    have a_1_c0 : v1.cell? ⟨w.heap.size, 0, none⟩ = some (.int .i64 n) := (Ba_1.cell 0).trans rfl
    have a_1_f0 := Ba_1.frozen 0
    have a_1_c1 : v1.cell? ⟨w.heap.size, 1, none⟩ = some (.int .i64 d) := (Ba_1.cell 1).trans rfl
    have a_1_f1 := Ba_1.frozen 1
    go_wp2
    go_ret
    refine ⟨?_, bl1⟩
    rw [decide_eq_false (Int.not_lt.2 hd0.out)]; rfl
end Go.Proofs.YtkdklmkcanjjfaaDoor
