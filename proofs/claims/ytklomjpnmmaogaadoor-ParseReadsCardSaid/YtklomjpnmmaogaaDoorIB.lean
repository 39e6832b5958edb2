/- The walks of instances, part B: what the program checks. -/
import Derived.Test.YtklomjpnmmaogaaDoorIA
namespace Go.Proofs.YtklomjpnmmaogaaDoor
open Go.RowKit
set_option linter.unusedVariables false
set_option linter.unusedSimpArgs false
set_option maxRecDepth 100000

theorem drop_get {α : Type} {l : List α} {i : Nat} {x : α} (h : l[i]? = some x) : l.drop i = x :: l.drop (i + 1) := by
  obtain ⟨hl, rfl⟩ := List.getElem?_eq_some_iff.1 h
  exact List.drop_eq_getElem_cons hl
def fewB (sq : Bool) (n1 n2 n3 : Nat) (sz : Int) : Bool := !(sq && (decide (n2 < 1) || decide (64 < n2))) && (decide (n1 ≤ 4096) && (decide (n3 ≤ 4096) && (decide (0 ≤ sz) && decide (sz ≤ 4096))))
set_option maxHeartbeats 3200000 in
theorem few_core (k cap sz : Int) (A1 A2 A3 : Option Addr) (n1 n2 n3 c1 c2 c3 : Nat) (w : World) (sq : Bool) (HQ : Hid (∀ w, Calls Tryd.prog 68 #[.int .i64 k] w fun e w' => e = .returned (.bool sq) ∧ Below w.heap.size w w')) :
    Calls Tryd.prog 45 #[.agg #[.int .i64 k, .int .i64 cap, .slice A1 n1 c1, .slice A2 n2 c2, .int .i64 sz, .slice A3 n3 c3]] w fun e w' => e = .returned (.bool (fewB sq n1 n2 n3 sz)) ∧ Below w.heap.size w w' := by
  cases sq
  · by_cases h3 : n1 ≤ 4096
    · by_cases h4 : n3 ≤ 4096
      · by_cases h5 : 0 ≤ sz
        · by_cases h6 : sz ≤ 4096
          · have h7 : decide (sz ≤ 4096) = true := by simpa using h6
            have HF : Hid (fewB false n1 n2 n3 sz = true) := Lib.hid (by unfold fewB; simp; omega)
            go_enter Tryd.func45, Tryd.ntmps45
            go_wp2_with fail
            (with_reducible refine (HQ.out _).mono ?_); rintro e v1 ⟨rfl, hb1⟩
            have st1 := bl_step (bl_alloc (Below.refl _ _) _) hb1
            have bl1 := st1
            have Bi_1 : Blk v1 (w.heap.size) 27 #[.int .i64 k, .int .i64 cap, .slice A1 n1 c1, .slice A2 n2 c2, .int .i64 sz, .slice A3 n3 c3] := (Blk.new _ _ _).below hb1
            have i_1_z : w.heap.size < v1.heap.size := Bi_1.lt
            have i_1_c0 : v1.cell? ⟨w.heap.size, 0, none⟩ = some (.int .i64 k) := (Bi_1.cell 0).trans rfl
            have i_1_f0 := Bi_1.frozen 0
            have i_1_c1 : v1.cell? ⟨w.heap.size, 1, none⟩ = some (.int .i64 cap) := (Bi_1.cell 1).trans rfl
            have i_1_f1 := Bi_1.frozen 1
            have i_1_c2 : v1.cell? ⟨w.heap.size, 2, none⟩ = some (.slice A1 n1 c1) := (Bi_1.cell 2).trans rfl
            have i_1_f2 := Bi_1.frozen 2
            have i_1_c3 : v1.cell? ⟨w.heap.size, 3, none⟩ = some (.slice A2 n2 c2) := (Bi_1.cell 3).trans rfl
            have i_1_f3 := Bi_1.frozen 3
            have i_1_c4 : v1.cell? ⟨w.heap.size, 4, none⟩ = some (.int .i64 sz) := (Bi_1.cell 4).trans rfl
            have i_1_f4 := Bi_1.frozen 4
            have i_1_c5 : v1.cell? ⟨w.heap.size, 5, none⟩ = some (.slice A3 n3 c3) := (Bi_1.cell 5).trans rfl
            have i_1_f5 := Bi_1.frozen 5
            go_wp2
            go_ret
            exact ⟨by rw [HF.out]; rfl, bl1⟩
          · have h7 : decide (sz ≤ 4096) = false := by simpa using h6
            have HF : Hid (fewB false n1 n2 n3 sz = false) := Lib.hid (by unfold fewB; simp; omega)
            go_enter Tryd.func45, Tryd.ntmps45
            go_wp2_with fail
            (with_reducible refine (HQ.out _).mono ?_); rintro e v1 ⟨rfl, hb1⟩
            have st1 := bl_step (bl_alloc (Below.refl _ _) _) hb1
            have bl1 := st1
            have Bi_1 : Blk v1 (w.heap.size) 27 #[.int .i64 k, .int .i64 cap, .slice A1 n1 c1, .slice A2 n2 c2, .int .i64 sz, .slice A3 n3 c3] := (Blk.new _ _ _).below hb1
            have i_1_z : w.heap.size < v1.heap.size := Bi_1.lt
            have i_1_c0 : v1.cell? ⟨w.heap.size, 0, none⟩ = some (.int .i64 k) := (Bi_1.cell 0).trans rfl
            have i_1_f0 := Bi_1.frozen 0
            have i_1_c1 : v1.cell? ⟨w.heap.size, 1, none⟩ = some (.int .i64 cap) := (Bi_1.cell 1).trans rfl
            have i_1_f1 := Bi_1.frozen 1
            have i_1_c2 : v1.cell? ⟨w.heap.size, 2, none⟩ = some (.slice A1 n1 c1) := (Bi_1.cell 2).trans rfl
            have i_1_f2 := Bi_1.frozen 2
            have i_1_c3 : v1.cell? ⟨w.heap.size, 3, none⟩ = some (.slice A2 n2 c2) := (Bi_1.cell 3).trans rfl
            have i_1_f3 := Bi_1.frozen 3
            have i_1_c4 : v1.cell? ⟨w.heap.size, 4, none⟩ = some (.int .i64 sz) := (Bi_1.cell 4).trans rfl
            have i_1_f4 := Bi_1.frozen 4
            have i_1_c5 : v1.cell? ⟨w.heap.size, 5, none⟩ = some (.slice A3 n3 c3) := (Bi_1.cell 5).trans rfl
            have i_1_f5 := Bi_1.frozen 5
            go_wp2
            go_ret
            exact ⟨by rw [HF.out]; rfl, bl1⟩
        · have HF : Hid (fewB false n1 n2 n3 sz = false) := Lib.hid (by unfold fewB; simp; omega)
          go_enter Tryd.func45, Tryd.ntmps45
          go_wp2_with fail
          (with_reducible refine (HQ.out _).mono ?_); rintro e v1 ⟨rfl, hb1⟩
          have st1 := bl_step (bl_alloc (Below.refl _ _) _) hb1
          have bl1 := st1
          have Bi_1 : Blk v1 (w.heap.size) 27 #[.int .i64 k, .int .i64 cap, .slice A1 n1 c1, .slice A2 n2 c2, .int .i64 sz, .slice A3 n3 c3] := (Blk.new _ _ _).below hb1
          have i_1_z : w.heap.size < v1.heap.size := Bi_1.lt
          have i_1_c0 : v1.cell? ⟨w.heap.size, 0, none⟩ = some (.int .i64 k) := (Bi_1.cell 0).trans rfl
          have i_1_f0 := Bi_1.frozen 0
          have i_1_c1 : v1.cell? ⟨w.heap.size, 1, none⟩ = some (.int .i64 cap) := (Bi_1.cell 1).trans rfl
          have i_1_f1 := Bi_1.frozen 1
          have i_1_c2 : v1.cell? ⟨w.heap.size, 2, none⟩ = some (.slice A1 n1 c1) := (Bi_1.cell 2).trans rfl
          have i_1_f2 := Bi_1.frozen 2
          have i_1_c3 : v1.cell? ⟨w.heap.size, 3, none⟩ = some (.slice A2 n2 c2) := (Bi_1.cell 3).trans rfl
          have i_1_f3 := Bi_1.frozen 3
          have i_1_c4 : v1.cell? ⟨w.heap.size, 4, none⟩ = some (.int .i64 sz) := (Bi_1.cell 4).trans rfl
          have i_1_f4 := Bi_1.frozen 4
          have i_1_c5 : v1.cell? ⟨w.heap.size, 5, none⟩ = some (.slice A3 n3 c3) := (Bi_1.cell 5).trans rfl
          have i_1_f5 := Bi_1.frozen 5
          go_wp2
          go_ret
          exact ⟨by rw [HF.out]; rfl, bl1⟩
      · have HF : Hid (fewB false n1 n2 n3 sz = false) := Lib.hid (by unfold fewB; simp; omega)
        go_enter Tryd.func45, Tryd.ntmps45
        go_wp2_with fail
        (with_reducible refine (HQ.out _).mono ?_); rintro e v1 ⟨rfl, hb1⟩
        have st1 := bl_step (bl_alloc (Below.refl _ _) _) hb1
        have bl1 := st1
        have Bi_1 : Blk v1 (w.heap.size) 27 #[.int .i64 k, .int .i64 cap, .slice A1 n1 c1, .slice A2 n2 c2, .int .i64 sz, .slice A3 n3 c3] := (Blk.new _ _ _).below hb1
        have i_1_z : w.heap.size < v1.heap.size := Bi_1.lt
        have i_1_c0 : v1.cell? ⟨w.heap.size, 0, none⟩ = some (.int .i64 k) := (Bi_1.cell 0).trans rfl
        have i_1_f0 := Bi_1.frozen 0
        have i_1_c1 : v1.cell? ⟨w.heap.size, 1, none⟩ = some (.int .i64 cap) := (Bi_1.cell 1).trans rfl
        have i_1_f1 := Bi_1.frozen 1
        have i_1_c2 : v1.cell? ⟨w.heap.size, 2, none⟩ = some (.slice A1 n1 c1) := (Bi_1.cell 2).trans rfl
        have i_1_f2 := Bi_1.frozen 2
        have i_1_c3 : v1.cell? ⟨w.heap.size, 3, none⟩ = some (.slice A2 n2 c2) := (Bi_1.cell 3).trans rfl
        have i_1_f3 := Bi_1.frozen 3
        have i_1_c4 : v1.cell? ⟨w.heap.size, 4, none⟩ = some (.int .i64 sz) := (Bi_1.cell 4).trans rfl
        have i_1_f4 := Bi_1.frozen 4
        have i_1_c5 : v1.cell? ⟨w.heap.size, 5, none⟩ = some (.slice A3 n3 c3) := (Bi_1.cell 5).trans rfl
        have i_1_f5 := Bi_1.frozen 5
        go_wp2
        go_ret
        exact ⟨by rw [HF.out]; rfl, bl1⟩
    · have HF : Hid (fewB false n1 n2 n3 sz = false) := Lib.hid (by unfold fewB; simp; omega)
      go_enter Tryd.func45, Tryd.ntmps45
      go_wp2_with fail
      (with_reducible refine (HQ.out _).mono ?_); rintro e v1 ⟨rfl, hb1⟩
      have st1 := bl_step (bl_alloc (Below.refl _ _) _) hb1
      have bl1 := st1
      have Bi_1 : Blk v1 (w.heap.size) 27 #[.int .i64 k, .int .i64 cap, .slice A1 n1 c1, .slice A2 n2 c2, .int .i64 sz, .slice A3 n3 c3] := (Blk.new _ _ _).below hb1
      have i_1_z : w.heap.size < v1.heap.size := Bi_1.lt
      have i_1_c0 : v1.cell? ⟨w.heap.size, 0, none⟩ = some (.int .i64 k) := (Bi_1.cell 0).trans rfl
      have i_1_f0 := Bi_1.frozen 0
      have i_1_c1 : v1.cell? ⟨w.heap.size, 1, none⟩ = some (.int .i64 cap) := (Bi_1.cell 1).trans rfl
      have i_1_f1 := Bi_1.frozen 1
      have i_1_c2 : v1.cell? ⟨w.heap.size, 2, none⟩ = some (.slice A1 n1 c1) := (Bi_1.cell 2).trans rfl
      have i_1_f2 := Bi_1.frozen 2
      have i_1_c3 : v1.cell? ⟨w.heap.size, 3, none⟩ = some (.slice A2 n2 c2) := (Bi_1.cell 3).trans rfl
      have i_1_f3 := Bi_1.frozen 3
      have i_1_c4 : v1.cell? ⟨w.heap.size, 4, none⟩ = some (.int .i64 sz) := (Bi_1.cell 4).trans rfl
      have i_1_f4 := Bi_1.frozen 4
      have i_1_c5 : v1.cell? ⟨w.heap.size, 5, none⟩ = some (.slice A3 n3 c3) := (Bi_1.cell 5).trans rfl
      have i_1_f5 := Bi_1.frozen 5
      go_wp2
      go_ret
      exact ⟨by rw [HF.out]; rfl, bl1⟩
  · by_cases h1 : n2 < 1
    · have HF : Hid (fewB true n1 n2 n3 sz = false) := Lib.hid (by unfold fewB; simp; omega)
      go_enter Tryd.func45, Tryd.ntmps45
      go_wp2_with fail
      (with_reducible refine (HQ.out _).mono ?_); rintro e v1 ⟨rfl, hb1⟩
      have st1 := bl_step (bl_alloc (Below.refl _ _) _) hb1
      have bl1 := st1
      have Bi_1 : Blk v1 (w.heap.size) 27 #[.int .i64 k, .int .i64 cap, .slice A1 n1 c1, .slice A2 n2 c2, .int .i64 sz, .slice A3 n3 c3] := (Blk.new _ _ _).below hb1
      have i_1_z : w.heap.size < v1.heap.size := Bi_1.lt
      have i_1_c0 : v1.cell? ⟨w.heap.size, 0, none⟩ = some (.int .i64 k) := (Bi_1.cell 0).trans rfl
      have i_1_f0 := Bi_1.frozen 0
      have i_1_c1 : v1.cell? ⟨w.heap.size, 1, none⟩ = some (.int .i64 cap) := (Bi_1.cell 1).trans rfl
      have i_1_f1 := Bi_1.frozen 1
      have i_1_c2 : v1.cell? ⟨w.heap.size, 2, none⟩ = some (.slice A1 n1 c1) := (Bi_1.cell 2).trans rfl
      have i_1_f2 := Bi_1.frozen 2
      have i_1_c3 : v1.cell? ⟨w.heap.size, 3, none⟩ = some (.slice A2 n2 c2) := (Bi_1.cell 3).trans rfl
      have i_1_f3 := Bi_1.frozen 3
      have i_1_c4 : v1.cell? ⟨w.heap.size, 4, none⟩ = some (.int .i64 sz) := (Bi_1.cell 4).trans rfl
      have i_1_f4 := Bi_1.frozen 4
      have i_1_c5 : v1.cell? ⟨w.heap.size, 5, none⟩ = some (.slice A3 n3 c3) := (Bi_1.cell 5).trans rfl
      have i_1_f5 := Bi_1.frozen 5
      go_wp2
      go_ret
      exact ⟨by rw [HF.out]; rfl, bl1⟩
    · by_cases h2 : 64 < n2
      · have HF : Hid (fewB true n1 n2 n3 sz = false) := Lib.hid (by unfold fewB; simp; omega)
        go_enter Tryd.func45, Tryd.ntmps45
        go_wp2_with fail
        (with_reducible refine (HQ.out _).mono ?_); rintro e v1 ⟨rfl, hb1⟩
        have st1 := bl_step (bl_alloc (Below.refl _ _) _) hb1
        have bl1 := st1
        have Bi_1 : Blk v1 (w.heap.size) 27 #[.int .i64 k, .int .i64 cap, .slice A1 n1 c1, .slice A2 n2 c2, .int .i64 sz, .slice A3 n3 c3] := (Blk.new _ _ _).below hb1
        have i_1_z : w.heap.size < v1.heap.size := Bi_1.lt
        have i_1_c0 : v1.cell? ⟨w.heap.size, 0, none⟩ = some (.int .i64 k) := (Bi_1.cell 0).trans rfl
        have i_1_f0 := Bi_1.frozen 0
        have i_1_c1 : v1.cell? ⟨w.heap.size, 1, none⟩ = some (.int .i64 cap) := (Bi_1.cell 1).trans rfl
        have i_1_f1 := Bi_1.frozen 1
        have i_1_c2 : v1.cell? ⟨w.heap.size, 2, none⟩ = some (.slice A1 n1 c1) := (Bi_1.cell 2).trans rfl
        have i_1_f2 := Bi_1.frozen 2
        have i_1_c3 : v1.cell? ⟨w.heap.size, 3, none⟩ = some (.slice A2 n2 c2) := (Bi_1.cell 3).trans rfl
        have i_1_f3 := Bi_1.frozen 3
        have i_1_c4 : v1.cell? ⟨w.heap.size, 4, none⟩ = some (.int .i64 sz) := (Bi_1.cell 4).trans rfl
        have i_1_f4 := Bi_1.frozen 4
        have i_1_c5 : v1.cell? ⟨w.heap.size, 5, none⟩ = some (.slice A3 n3 c3) := (Bi_1.cell 5).trans rfl
        have i_1_f5 := Bi_1.frozen 5
        go_wp2
        go_ret
        exact ⟨by rw [HF.out]; rfl, bl1⟩
      · by_cases h3 : n1 ≤ 4096
        · by_cases h4 : n3 ≤ 4096
          · by_cases h5 : 0 ≤ sz
            · by_cases h6 : sz ≤ 4096
              · have h7 : decide (sz ≤ 4096) = true := by simpa using h6
                have HF : Hid (fewB true n1 n2 n3 sz = true) := Lib.hid (by unfold fewB; simp; omega)
                go_enter Tryd.func45, Tryd.ntmps45
                go_wp2_with fail
                (with_reducible refine (HQ.out _).mono ?_); rintro e v1 ⟨rfl, hb1⟩
                have st1 := bl_step (bl_alloc (Below.refl _ _) _) hb1
                have bl1 := st1
                have Bi_1 : Blk v1 (w.heap.size) 27 #[.int .i64 k, .int .i64 cap, .slice A1 n1 c1, .slice A2 n2 c2, .int .i64 sz, .slice A3 n3 c3] := (Blk.new _ _ _).below hb1
                have i_1_z : w.heap.size < v1.heap.size := Bi_1.lt
                have i_1_c0 : v1.cell? ⟨w.heap.size, 0, none⟩ = some (.int .i64 k) := (Bi_1.cell 0).trans rfl
                have i_1_f0 := Bi_1.frozen 0
                have i_1_c1 : v1.cell? ⟨w.heap.size, 1, none⟩ = some (.int .i64 cap) := (Bi_1.cell 1).trans rfl
                have i_1_f1 := Bi_1.frozen 1
                have i_1_c2 : v1.cell? ⟨w.heap.size, 2, none⟩ = some (.slice A1 n1 c1) := (Bi_1.cell 2).trans rfl
                have i_1_f2 := Bi_1.frozen 2
                have i_1_c3 : v1.cell? ⟨w.heap.size, 3, none⟩ = some (.slice A2 n2 c2) := (Bi_1.cell 3).trans rfl
                have i_1_f3 := Bi_1.frozen 3
                have i_1_c4 : v1.cell? ⟨w.heap.size, 4, none⟩ = some (.int .i64 sz) := (Bi_1.cell 4).trans rfl
                have i_1_f4 := Bi_1.frozen 4
                have i_1_c5 : v1.cell? ⟨w.heap.size, 5, none⟩ = some (.slice A3 n3 c3) := (Bi_1.cell 5).trans rfl
                have i_1_f5 := Bi_1.frozen 5
                go_wp2
                go_ret
                exact ⟨by rw [HF.out]; rfl, bl1⟩
              · have h7 : decide (sz ≤ 4096) = false := by simpa using h6
                have HF : Hid (fewB true n1 n2 n3 sz = false) := Lib.hid (by unfold fewB; simp; omega)
                go_enter Tryd.func45, Tryd.ntmps45
                go_wp2_with fail
                (with_reducible refine (HQ.out _).mono ?_); rintro e v1 ⟨rfl, hb1⟩
                have st1 := bl_step (bl_alloc (Below.refl _ _) _) hb1
                have bl1 := st1
                have Bi_1 : Blk v1 (w.heap.size) 27 #[.int .i64 k, .int .i64 cap, .slice A1 n1 c1, .slice A2 n2 c2, .int .i64 sz, .slice A3 n3 c3] := (Blk.new _ _ _).below hb1
                have i_1_z : w.heap.size < v1.heap.size := Bi_1.lt
                have i_1_c0 : v1.cell? ⟨w.heap.size, 0, none⟩ = some (.int .i64 k) := (Bi_1.cell 0).trans rfl
                have i_1_f0 := Bi_1.frozen 0
                have i_1_c1 : v1.cell? ⟨w.heap.size, 1, none⟩ = some (.int .i64 cap) := (Bi_1.cell 1).trans rfl
                have i_1_f1 := Bi_1.frozen 1
                have i_1_c2 : v1.cell? ⟨w.heap.size, 2, none⟩ = some (.slice A1 n1 c1) := (Bi_1.cell 2).trans rfl
                have i_1_f2 := Bi_1.frozen 2
                have i_1_c3 : v1.cell? ⟨w.heap.size, 3, none⟩ = some (.slice A2 n2 c2) := (Bi_1.cell 3).trans rfl
                have i_1_f3 := Bi_1.frozen 3
                have i_1_c4 : v1.cell? ⟨w.heap.size, 4, none⟩ = some (.int .i64 sz) := (Bi_1.cell 4).trans rfl
                have i_1_f4 := Bi_1.frozen 4
                have i_1_c5 : v1.cell? ⟨w.heap.size, 5, none⟩ = some (.slice A3 n3 c3) := (Bi_1.cell 5).trans rfl
                have i_1_f5 := Bi_1.frozen 5
                go_wp2
                go_ret
                exact ⟨by rw [HF.out]; rfl, bl1⟩
            · have HF : Hid (fewB true n1 n2 n3 sz = false) := Lib.hid (by unfold fewB; simp; omega)
              go_enter Tryd.func45, Tryd.ntmps45
              go_wp2_with fail
              (with_reducible refine (HQ.out _).mono ?_); rintro e v1 ⟨rfl, hb1⟩
              have st1 := bl_step (bl_alloc (Below.refl _ _) _) hb1
              have bl1 := st1
              have Bi_1 : Blk v1 (w.heap.size) 27 #[.int .i64 k, .int .i64 cap, .slice A1 n1 c1, .slice A2 n2 c2, .int .i64 sz, .slice A3 n3 c3] := (Blk.new _ _ _).below hb1
              have i_1_z : w.heap.size < v1.heap.size := Bi_1.lt
              have i_1_c0 : v1.cell? ⟨w.heap.size, 0, none⟩ = some (.int .i64 k) := (Bi_1.cell 0).trans rfl
              have i_1_f0 := Bi_1.frozen 0
              have i_1_c1 : v1.cell? ⟨w.heap.size, 1, none⟩ = some (.int .i64 cap) := (Bi_1.cell 1).trans rfl
              have i_1_f1 := Bi_1.frozen 1
              have i_1_c2 : v1.cell? ⟨w.heap.size, 2, none⟩ = some (.slice A1 n1 c1) := (Bi_1.cell 2).trans rfl
              have i_1_f2 := Bi_1.frozen 2
              have i_1_c3 : v1.cell? ⟨w.heap.size, 3, none⟩ = some (.slice A2 n2 c2) := (Bi_1.cell 3).trans rfl
              have i_1_f3 := Bi_1.frozen 3
              have i_1_c4 : v1.cell? ⟨w.heap.size, 4, none⟩ = some (.int .i64 sz) := (Bi_1.cell 4).trans rfl
              have i_1_f4 := Bi_1.frozen 4
              have i_1_c5 : v1.cell? ⟨w.heap.size, 5, none⟩ = some (.slice A3 n3 c3) := (Bi_1.cell 5).trans rfl
              have i_1_f5 := Bi_1.frozen 5
              go_wp2
              go_ret
              exact ⟨by rw [HF.out]; rfl, bl1⟩
          · have HF : Hid (fewB true n1 n2 n3 sz = false) := Lib.hid (by unfold fewB; simp; omega)
            go_enter Tryd.func45, Tryd.ntmps45
            go_wp2_with fail
            (with_reducible refine (HQ.out _).mono ?_); rintro e v1 ⟨rfl, hb1⟩
            have st1 := bl_step (bl_alloc (Below.refl _ _) _) hb1
            have bl1 := st1
            have Bi_1 : Blk v1 (w.heap.size) 27 #[.int .i64 k, .int .i64 cap, .slice A1 n1 c1, .slice A2 n2 c2, .int .i64 sz, .slice A3 n3 c3] := (Blk.new _ _ _).below hb1
            have i_1_z : w.heap.size < v1.heap.size := Bi_1.lt
            have i_1_c0 : v1.cell? ⟨w.heap.size, 0, none⟩ = some (.int .i64 k) := (Bi_1.cell 0).trans rfl
            have i_1_f0 := Bi_1.frozen 0
            have i_1_c1 : v1.cell? ⟨w.heap.size, 1, none⟩ = some (.int .i64 cap) := (Bi_1.cell 1).trans rfl
            have i_1_f1 := Bi_1.frozen 1
            have i_1_c2 : v1.cell? ⟨w.heap.size, 2, none⟩ = some (.slice A1 n1 c1) := (Bi_1.cell 2).trans rfl
            have i_1_f2 := Bi_1.frozen 2
            have i_1_c3 : v1.cell? ⟨w.heap.size, 3, none⟩ = some (.slice A2 n2 c2) := (Bi_1.cell 3).trans rfl
            have i_1_f3 := Bi_1.frozen 3
            have i_1_c4 : v1.cell? ⟨w.heap.size, 4, none⟩ = some (.int .i64 sz) := (Bi_1.cell 4).trans rfl
            have i_1_f4 := Bi_1.frozen 4
            have i_1_c5 : v1.cell? ⟨w.heap.size, 5, none⟩ = some (.slice A3 n3 c3) := (Bi_1.cell 5).trans rfl
            have i_1_f5 := Bi_1.frozen 5
            go_wp2
            go_ret
            exact ⟨by rw [HF.out]; rfl, bl1⟩
        · have HF : Hid (fewB true n1 n2 n3 sz = false) := Lib.hid (by unfold fewB; simp; omega)
          go_enter Tryd.func45, Tryd.ntmps45
          go_wp2_with fail
          (with_reducible refine (HQ.out _).mono ?_); rintro e v1 ⟨rfl, hb1⟩
          have st1 := bl_step (bl_alloc (Below.refl _ _) _) hb1
          have bl1 := st1
          have Bi_1 : Blk v1 (w.heap.size) 27 #[.int .i64 k, .int .i64 cap, .slice A1 n1 c1, .slice A2 n2 c2, .int .i64 sz, .slice A3 n3 c3] := (Blk.new _ _ _).below hb1
          have i_1_z : w.heap.size < v1.heap.size := Bi_1.lt
          have i_1_c0 : v1.cell? ⟨w.heap.size, 0, none⟩ = some (.int .i64 k) := (Bi_1.cell 0).trans rfl
          have i_1_f0 := Bi_1.frozen 0
          have i_1_c1 : v1.cell? ⟨w.heap.size, 1, none⟩ = some (.int .i64 cap) := (Bi_1.cell 1).trans rfl
          have i_1_f1 := Bi_1.frozen 1
          have i_1_c2 : v1.cell? ⟨w.heap.size, 2, none⟩ = some (.slice A1 n1 c1) := (Bi_1.cell 2).trans rfl
          have i_1_f2 := Bi_1.frozen 2
          have i_1_c3 : v1.cell? ⟨w.heap.size, 3, none⟩ = some (.slice A2 n2 c2) := (Bi_1.cell 3).trans rfl
          have i_1_f3 := Bi_1.frozen 3
          have i_1_c4 : v1.cell? ⟨w.heap.size, 4, none⟩ = some (.int .i64 sz) := (Bi_1.cell 4).trans rfl
          have i_1_f4 := Bi_1.frozen 4
          have i_1_c5 : v1.cell? ⟨w.heap.size, 5, none⟩ = some (.slice A3 n3 c3) := (Bi_1.cell 5).trans rfl
          have i_1_f5 := Bi_1.frozen 5
          go_wp2
          go_ret
          exact ⟨by rw [HF.out]; rfl, bl1⟩
def fromB (n low : Int) : Bool := decide (low ≤ n) && decide (n ≤ 2147483648)
theorem from_any (n low : Int) (w : World) : Calls Tryd.prog 69 #[.int .i64 n, .int .i64 low] w fun e w' => e = .returned (.bool (fromB n low)) ∧ Below w.heap.size w w' := by
  by_cases h0 : low ≤ n
  · by_cases h1 : n ≤ 2147483648
    · have e : Hid (fromB n low = true) := Lib.hid (by unfold fromB; simp; omega)
      go_enter Tryd.func69, Tryd.ntmps69
      go_wp2
      go_ret
      exact ⟨by rw [e.out]; rfl, Below.refl _ _⟩
    · have e : Hid (fromB n low = false) := Lib.hid (by unfold fromB; simp; omega)
      go_enter Tryd.func69, Tryd.ntmps69
      go_wp2
      go_ret
      exact ⟨by rw [e.out]; rfl, Below.refl _ _⟩
  · have e : Hid (fromB n low = false) := Lib.hid (by unfold fromB; simp; omega)
    go_enter Tryd.func69, Tryd.ntmps69
    go_wp2
    go_ret
    exact ⟨by rw [e.out]; rfl, Below.refl _ _⟩
end Go.Proofs.YtklomjpnmmaogaaDoor
