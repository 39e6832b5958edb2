/- The walks of instances, part A: kinds, and how many of all there are. -/
import Derived.Test.YtklomjpnmmaogaaDoorProg
import Derived.Test.YtklomjpnmmaogaaDoorIMem
import Derived.KernelRfl
import Derived.Deep.QuietTactic
import Derived.BigQuiet
import Derived.Lib.Hide
import Derived.Outline
import Derived.LoopTactic
namespace Go.Proofs.YtklomjpnmmaogaaDoor
open Go.RowKit
set_option linter.unusedVariables false
set_option linter.unusedSimpArgs false
set_option maxRecDepth 100000

def kindB (k : Int) : Bool := decide (0 ≤ k ∧ k ≤ 3)
def sqB (k : Int) : Bool := decide (k = 1 ∨ k = 2)
theorem is_any (k : Int) (w : World) : Calls Tryd.prog 43 #[.int .i64 k] w fun e w' => e = .returned (.bool (kindB k)) ∧ Below w.heap.size w w' := by
  by_cases h0 : 0 ≤ k
  · by_cases h1 : k < 4
    · go_enter Tryd.func43, Tryd.ntmps43
      go_wp2
      go_ret
      exact ⟨by rw [show kindB k = true by unfold kindB; simp; omega]; rfl, Below.refl _ _⟩
    · go_enter Tryd.func43, Tryd.ntmps43
      go_wp2
      go_ret
      exact ⟨by rw [show kindB k = false by unfold kindB; simp; omega]; rfl, Below.refl _ _⟩
  · go_enter Tryd.func43, Tryd.ntmps43
    go_wp2
    go_ret
    exact ⟨by rw [show kindB k = false by unfold kindB; simp; omega]; rfl, Below.refl _ _⟩
theorem square_any (k : Int) (w : World) : Calls Tryd.prog 68 #[.int .i64 k] w fun e w' => e = .returned (.bool (sqB k)) ∧ Below w.heap.size w w' := by
  by_cases h0 : k = 1
  · subst h0
    go_enter Tryd.func68, Tryd.ntmps68
    go_wp2
    go_ret
    exact ⟨rfl, Below.refl _ _⟩
  · by_cases h1 : k = 2
    · subst h1
      go_enter Tryd.func68, Tryd.ntmps68
      go_wp2
      go_ret
      exact ⟨rfl, Below.refl _ _⟩
    · have e : Hid (sqB k = false) := Lib.hid (by unfold sqB; simp; omega)
      have g0 : (k == 1) = false := by simpa using h0
      have g1 : (k == 2) = false := by simpa using h1
      clear h0 h1
      go_enter Tryd.func68, Tryd.ntmps68
      go_wp2
      go_ret
      exact ⟨by rw [e.out]; rfl, Below.refl _ _⟩
def lean8 (k0 cap n1 sq n2 k3 sz n3 : Bool) : Bool := (k0 || (cap && n1)) && (sq || n2) && (k3 || (sz && n3))
set_option maxHeartbeats 6400000 in
theorem lean_core (k cap sz : Int) (A1 A2 A3 : Option Addr) (n1 n2 n3 c1 c2 c3 : Nat) (w : World) (sq : Bool) (HQ : Hid (∀ w, Calls Tryd.prog 68 #[.int .i64 k] w fun e w' => e = .returned (.bool sq) ∧ Below w.heap.size w w')) :
    Calls Tryd.prog 44 #[.agg #[.int .i64 k, .int .i64 cap, .slice A1 n1 c1, .slice A2 n2 c2, .int .i64 sz, .slice A3 n3 c3]] w fun e w' => e = .returned (.bool (lean8 (k == 0) (cap == 0) ((n1 : Int) == 0) sq ((n2 : Int) == 0) (k == 3) (sz == 0) ((n3 : Int) == 0))) ∧ Below w.heap.size w w' := by
  cases hk0 : (k == 0)
  · cases hcap : (cap == 0)
    · go_enter Tryd.func44, Tryd.ntmps44
      go_wp2
      go_ret
      exact ⟨by simp [lean8], bl_alloc (Below.refl _ _) _⟩
    · cases hn1 : ((n1 : Int) == 0)
      · go_enter Tryd.func44, Tryd.ntmps44
        go_wp2
        go_ret
        exact ⟨by simp [lean8], bl_alloc (Below.refl _ _) _⟩
      · cases sq
        · cases hn2 : ((n2 : Int) == 0)
          · go_enter Tryd.func44, Tryd.ntmps44
            go_wp2_with fail
            (with_reducible refine (HQ.out _).mono ?_); rintro e v1 ⟨rfl, hb1⟩
            have st1 := bl_step (bl_alloc (Below.refl _ _) _) hb1
            have bl1 := st1
            have Bi_1 : Blk v1 (w.heap.size) 27 #[.int .i64 k, .int .i64 cap, .slice A1 n1 c1, .slice A2 n2 c2, .int .i64 sz, .slice A3 n3 c3] := (Blk.new _ _ _).below hb1
            have i_1_z : w.heap.size < v1.heap.size := Bi_1.lt
            have i_1_c0 : v1.cell? ⟨w.heap.size, 0, none⟩ = some (.int .i64 k) := (Bi_1.cell 0).trans rfl
            have i_1_f0 := Bi_1.frozen 0
            have i_1_c1 : v1.cell? ⟨w.heap.size, 1, none⟩ = some (.int .i64 cap) := (Bi_1.cell 1).trans rfl
            have i_1_f1 := Bi_1.frozen 1
            have i_1_c2 : v1.cell? ⟨w.heap.size, 2, none⟩ = some (.slice A1 n1 c1) := (Bi_1.cell 2).trans rfl
            have i_1_f2 := Bi_1.frozen 2
            have i_1_c3 : v1.cell? ⟨w.heap.size, 3, none⟩ = some (.slice A2 n2 c2) := (Bi_1.cell 3).trans rfl
            have i_1_f3 := Bi_1.frozen 3
            have i_1_c4 : v1.cell? ⟨w.heap.size, 4, none⟩ = some (.int .i64 sz) := (Bi_1.cell 4).trans rfl
            have i_1_f4 := Bi_1.frozen 4
            have i_1_c5 : v1.cell? ⟨w.heap.size, 5, none⟩ = some (.slice A3 n3 c3) := (Bi_1.cell 5).trans rfl
            have i_1_f5 := Bi_1.frozen 5
            go_wp2
            go_ret
            exact ⟨by simp [lean8], bl1⟩
          · cases hk3 : (k == 3)
            · cases hsz : (sz == 0)
              · go_enter Tryd.func44, Tryd.ntmps44
                go_wp2_with fail
                (with_reducible refine (HQ.out _).mono ?_); rintro e v1 ⟨rfl, hb1⟩
                have st1 := bl_step (bl_alloc (Below.refl _ _) _) hb1
                have bl1 := st1
                have Bi_1 : Blk v1 (w.heap.size) 27 #[.int .i64 k, .int .i64 cap, .slice A1 n1 c1, .slice A2 n2 c2, .int .i64 sz, .slice A3 n3 c3] := (Blk.new _ _ _).below hb1
                have i_1_z : w.heap.size < v1.heap.size := Bi_1.lt
                have i_1_c0 : v1.cell? ⟨w.heap.size, 0, none⟩ = some (.int .i64 k) := (Bi_1.cell 0).trans rfl
                have i_1_f0 := Bi_1.frozen 0
                have i_1_c1 : v1.cell? ⟨w.heap.size, 1, none⟩ = some (.int .i64 cap) := (Bi_1.cell 1).trans rfl
                have i_1_f1 := Bi_1.frozen 1
                have i_1_c2 : v1.cell? ⟨w.heap.size, 2, none⟩ = some (.slice A1 n1 c1) := (Bi_1.cell 2).trans rfl
                have i_1_f2 := Bi_1.frozen 2
                have i_1_c3 : v1.cell? ⟨w.heap.size, 3, none⟩ = some (.slice A2 n2 c2) := (Bi_1.cell 3).trans rfl
                have i_1_f3 := Bi_1.frozen 3
                have i_1_c4 : v1.cell? ⟨w.heap.size, 4, none⟩ = some (.int .i64 sz) := (Bi_1.cell 4).trans rfl
                have i_1_f4 := Bi_1.frozen 4
                have i_1_c5 : v1.cell? ⟨w.heap.size, 5, none⟩ = some (.slice A3 n3 c3) := (Bi_1.cell 5).trans rfl
                have i_1_f5 := Bi_1.frozen 5
                go_wp2
                go_ret
                exact ⟨by simp [lean8], bl1⟩
              · cases hn3 : ((n3 : Int) == 0)
                · go_enter Tryd.func44, Tryd.ntmps44
                  go_wp2_with fail
                  (with_reducible refine (HQ.out _).mono ?_); rintro e v1 ⟨rfl, hb1⟩
                  have st1 := bl_step (bl_alloc (Below.refl _ _) _) hb1
                  have bl1 := st1
                  have Bi_1 : Blk v1 (w.heap.size) 27 #[.int .i64 k, .int .i64 cap, .slice A1 n1 c1, .slice A2 n2 c2, .int .i64 sz, .slice A3 n3 c3] := (Blk.new _ _ _).below hb1
                  have i_1_z : w.heap.size < v1.heap.size := Bi_1.lt
                  have i_1_c0 : v1.cell? ⟨w.heap.size, 0, none⟩ = some (.int .i64 k) := (Bi_1.cell 0).trans rfl
                  have i_1_f0 := Bi_1.frozen 0
                  have i_1_c1 : v1.cell? ⟨w.heap.size, 1, none⟩ = some (.int .i64 cap) := (Bi_1.cell 1).trans rfl
                  have i_1_f1 := Bi_1.frozen 1
                  have i_1_c2 : v1.cell? ⟨w.heap.size, 2, none⟩ = some (.slice A1 n1 c1) := (Bi_1.cell 2).trans rfl
                  have i_1_f2 := Bi_1.frozen 2
                  have i_1_c3 : v1.cell? ⟨w.heap.size, 3, none⟩ = some (.slice A2 n2 c2) := (Bi_1.cell 3).trans rfl
                  have i_1_f3 := Bi_1.frozen 3
                  have i_1_c4 : v1.cell? ⟨w.heap.size, 4, none⟩ = some (.int .i64 sz) := (Bi_1.cell 4).trans rfl
                  have i_1_f4 := Bi_1.frozen 4
                  have i_1_c5 : v1.cell? ⟨w.heap.size, 5, none⟩ = some (.slice A3 n3 c3) := (Bi_1.cell 5).trans rfl
                  have i_1_f5 := Bi_1.frozen 5
                  go_wp2
                  go_ret
                  exact ⟨by simp [lean8], bl1⟩
                · go_enter Tryd.func44, Tryd.ntmps44
                  go_wp2_with fail
                  (with_reducible refine (HQ.out _).mono ?_); rintro e v1 ⟨rfl, hb1⟩
                  have st1 := bl_step (bl_alloc (Below.refl _ _) _) hb1
                  have bl1 := st1
                  have Bi_1 : Blk v1 (w.heap.size) 27 #[.int .i64 k, .int .i64 cap, .slice A1 n1 c1, .slice A2 n2 c2, .int .i64 sz, .slice A3 n3 c3] := (Blk.new _ _ _).below hb1
                  have i_1_z : w.heap.size < v1.heap.size := Bi_1.lt
                  have i_1_c0 : v1.cell? ⟨w.heap.size, 0, none⟩ = some (.int .i64 k) := (Bi_1.cell 0).trans rfl
                  have i_1_f0 := Bi_1.frozen 0
                  have i_1_c1 : v1.cell? ⟨w.heap.size, 1, none⟩ = some (.int .i64 cap) := (Bi_1.cell 1).trans rfl
                  have i_1_f1 := Bi_1.frozen 1
                  have i_1_c2 : v1.cell? ⟨w.heap.size, 2, none⟩ = some (.slice A1 n1 c1) := (Bi_1.cell 2).trans rfl
                  have i_1_f2 := Bi_1.frozen 2
                  have i_1_c3 : v1.cell? ⟨w.heap.size, 3, none⟩ = some (.slice A2 n2 c2) := (Bi_1.cell 3).trans rfl
                  have i_1_f3 := Bi_1.frozen 3
                  have i_1_c4 : v1.cell? ⟨w.heap.size, 4, none⟩ = some (.int .i64 sz) := (Bi_1.cell 4).trans rfl
                  have i_1_f4 := Bi_1.frozen 4
                  have i_1_c5 : v1.cell? ⟨w.heap.size, 5, none⟩ = some (.slice A3 n3 c3) := (Bi_1.cell 5).trans rfl
                  have i_1_f5 := Bi_1.frozen 5
                  go_wp2
                  go_ret
                  exact ⟨by simp [lean8], bl1⟩
            · go_enter Tryd.func44, Tryd.ntmps44
              go_wp2_with fail
              (with_reducible refine (HQ.out _).mono ?_); rintro e v1 ⟨rfl, hb1⟩
              have st1 := bl_step (bl_alloc (Below.refl _ _) _) hb1
              have bl1 := st1
              have Bi_1 : Blk v1 (w.heap.size) 27 #[.int .i64 k, .int .i64 cap, .slice A1 n1 c1, .slice A2 n2 c2, .int .i64 sz, .slice A3 n3 c3] := (Blk.new _ _ _).below hb1
              have i_1_z : w.heap.size < v1.heap.size := Bi_1.lt
              have i_1_c0 : v1.cell? ⟨w.heap.size, 0, none⟩ = some (.int .i64 k) := (Bi_1.cell 0).trans rfl
              have i_1_f0 := Bi_1.frozen 0
              have i_1_c1 : v1.cell? ⟨w.heap.size, 1, none⟩ = some (.int .i64 cap) := (Bi_1.cell 1).trans rfl
              have i_1_f1 := Bi_1.frozen 1
              have i_1_c2 : v1.cell? ⟨w.heap.size, 2, none⟩ = some (.slice A1 n1 c1) := (Bi_1.cell 2).trans rfl
              have i_1_f2 := Bi_1.frozen 2
              have i_1_c3 : v1.cell? ⟨w.heap.size, 3, none⟩ = some (.slice A2 n2 c2) := (Bi_1.cell 3).trans rfl
              have i_1_f3 := Bi_1.frozen 3
              have i_1_c4 : v1.cell? ⟨w.heap.size, 4, none⟩ = some (.int .i64 sz) := (Bi_1.cell 4).trans rfl
              have i_1_f4 := Bi_1.frozen 4
              have i_1_c5 : v1.cell? ⟨w.heap.size, 5, none⟩ = some (.slice A3 n3 c3) := (Bi_1.cell 5).trans rfl
              have i_1_f5 := Bi_1.frozen 5
              go_wp2
              go_ret
              exact ⟨by simp [lean8], bl1⟩
        · cases hk3 : (k == 3)
          · cases hsz : (sz == 0)
            · go_enter Tryd.func44, Tryd.ntmps44
              go_wp2_with fail
              (with_reducible refine (HQ.out _).mono ?_); rintro e v1 ⟨rfl, hb1⟩
              have st1 := bl_step (bl_alloc (Below.refl _ _) _) hb1
              have bl1 := st1
              have Bi_1 : Blk v1 (w.heap.size) 27 #[.int .i64 k, .int .i64 cap, .slice A1 n1 c1, .slice A2 n2 c2, .int .i64 sz, .slice A3 n3 c3] := (Blk.new _ _ _).below hb1
              have i_1_z : w.heap.size < v1.heap.size := Bi_1.lt
              have i_1_c0 : v1.cell? ⟨w.heap.size, 0, none⟩ = some (.int .i64 k) := (Bi_1.cell 0).trans rfl
              have i_1_f0 := Bi_1.frozen 0
              have i_1_c1 : v1.cell? ⟨w.heap.size, 1, none⟩ = some (.int .i64 cap) := (Bi_1.cell 1).trans rfl
              have i_1_f1 := Bi_1.frozen 1
              have i_1_c2 : v1.cell? ⟨w.heap.size, 2, none⟩ = some (.slice A1 n1 c1) := (Bi_1.cell 2).trans rfl
              have i_1_f2 := Bi_1.frozen 2
              have i_1_c3 : v1.cell? ⟨w.heap.size, 3, none⟩ = some (.slice A2 n2 c2) := (Bi_1.cell 3).trans rfl
              have i_1_f3 := Bi_1.frozen 3
              have i_1_c4 : v1.cell? ⟨w.heap.size, 4, none⟩ = some (.int .i64 sz) := (Bi_1.cell 4).trans rfl
              have i_1_f4 := Bi_1.frozen 4
              have i_1_c5 : v1.cell? ⟨w.heap.size, 5, none⟩ = some (.slice A3 n3 c3) := (Bi_1.cell 5).trans rfl
              have i_1_f5 := Bi_1.frozen 5
              go_wp2
              go_ret
              exact ⟨by simp [lean8], bl1⟩
            · cases hn3 : ((n3 : Int) == 0)
              · go_enter Tryd.func44, Tryd.ntmps44
                go_wp2_with fail
                (with_reducible refine (HQ.out _).mono ?_); rintro e v1 ⟨rfl, hb1⟩
                have st1 := bl_step (bl_alloc (Below.refl _ _) _) hb1
                have bl1 := st1
                have Bi_1 : Blk v1 (w.heap.size) 27 #[.int .i64 k, .int .i64 cap, .slice A1 n1 c1, .slice A2 n2 c2, .int .i64 sz, .slice A3 n3 c3] := (Blk.new _ _ _).below hb1
                have i_1_z : w.heap.size < v1.heap.size := Bi_1.lt
                have i_1_c0 : v1.cell? ⟨w.heap.size, 0, none⟩ = some (.int .i64 k) := (Bi_1.cell 0).trans rfl
                have i_1_f0 := Bi_1.frozen 0
                have i_1_c1 : v1.cell? ⟨w.heap.size, 1, none⟩ = some (.int .i64 cap) := (Bi_1.cell 1).trans rfl
                have i_1_f1 := Bi_1.frozen 1
                have i_1_c2 : v1.cell? ⟨w.heap.size, 2, none⟩ = some (.slice A1 n1 c1) := (Bi_1.cell 2).trans rfl
                have i_1_f2 := Bi_1.frozen 2
                have i_1_c3 : v1.cell? ⟨w.heap.size, 3, none⟩ = some (.slice A2 n2 c2) := (Bi_1.cell 3).trans rfl
                have i_1_f3 := Bi_1.frozen 3
                have i_1_c4 : v1.cell? ⟨w.heap.size, 4, none⟩ = some (.int .i64 sz) := (Bi_1.cell 4).trans rfl
                have i_1_f4 := Bi_1.frozen 4
                have i_1_c5 : v1.cell? ⟨w.heap.size, 5, none⟩ = some (.slice A3 n3 c3) := (Bi_1.cell 5).trans rfl
                have i_1_f5 := Bi_1.frozen 5
                go_wp2
                go_ret
                exact ⟨by simp [lean8], bl1⟩
              · go_enter Tryd.func44, Tryd.ntmps44
                go_wp2_with fail
                (with_reducible refine (HQ.out _).mono ?_); rintro e v1 ⟨rfl, hb1⟩
                have st1 := bl_step (bl_alloc (Below.refl _ _) _) hb1
                have bl1 := st1
                have Bi_1 : Blk v1 (w.heap.size) 27 #[.int .i64 k, .int .i64 cap, .slice A1 n1 c1, .slice A2 n2 c2, .int .i64 sz, .slice A3 n3 c3] := (Blk.new _ _ _).below hb1
                have i_1_z : w.heap.size < v1.heap.size := Bi_1.lt
                have i_1_c0 : v1.cell? ⟨w.heap.size, 0, none⟩ = some (.int .i64 k) := (Bi_1.cell 0).trans rfl
                have i_1_f0 := Bi_1.frozen 0
                have i_1_c1 : v1.cell? ⟨w.heap.size, 1, none⟩ = some (.int .i64 cap) := (Bi_1.cell 1).trans rfl
                have i_1_f1 := Bi_1.frozen 1
                have i_1_c2 : v1.cell? ⟨w.heap.size, 2, none⟩ = some (.slice A1 n1 c1) := (Bi_1.cell 2).trans rfl
                have i_1_f2 := Bi_1.frozen 2
                have i_1_c3 : v1.cell? ⟨w.heap.size, 3, none⟩ = some (.slice A2 n2 c2) := (Bi_1.cell 3).trans rfl
                have i_1_f3 := Bi_1.frozen 3
                have i_1_c4 : v1.cell? ⟨w.heap.size, 4, none⟩ = some (.int .i64 sz) := (Bi_1.cell 4).trans rfl
                have i_1_f4 := Bi_1.frozen 4
                have i_1_c5 : v1.cell? ⟨w.heap.size, 5, none⟩ = some (.slice A3 n3 c3) := (Bi_1.cell 5).trans rfl
                have i_1_f5 := Bi_1.frozen 5
                go_wp2
                go_ret
                exact ⟨by simp [lean8], bl1⟩
          · go_enter Tryd.func44, Tryd.ntmps44
            go_wp2_with fail
            (with_reducible refine (HQ.out _).mono ?_); rintro e v1 ⟨rfl, hb1⟩
            have st1 := bl_step (bl_alloc (Below.refl _ _) _) hb1
            have bl1 := st1
            have Bi_1 : Blk v1 (w.heap.size) 27 #[.int .i64 k, .int .i64 cap, .slice A1 n1 c1, .slice A2 n2 c2, .int .i64 sz, .slice A3 n3 c3] := (Blk.new _ _ _).below hb1
            have i_1_z : w.heap.size < v1.heap.size := Bi_1.lt
            have i_1_c0 : v1.cell? ⟨w.heap.size, 0, none⟩ = some (.int .i64 k) := (Bi_1.cell 0).trans rfl
            have i_1_f0 := Bi_1.frozen 0
            have i_1_c1 : v1.cell? ⟨w.heap.size, 1, none⟩ = some (.int .i64 cap) := (Bi_1.cell 1).trans rfl
            have i_1_f1 := Bi_1.frozen 1
            have i_1_c2 : v1.cell? ⟨w.heap.size, 2, none⟩ = some (.slice A1 n1 c1) := (Bi_1.cell 2).trans rfl
            have i_1_f2 := Bi_1.frozen 2
            have i_1_c3 : v1.cell? ⟨w.heap.size, 3, none⟩ = some (.slice A2 n2 c2) := (Bi_1.cell 3).trans rfl
            have i_1_f3 := Bi_1.frozen 3
            have i_1_c4 : v1.cell? ⟨w.heap.size, 4, none⟩ = some (.int .i64 sz) := (Bi_1.cell 4).trans rfl
            have i_1_f4 := Bi_1.frozen 4
            have i_1_c5 : v1.cell? ⟨w.heap.size, 5, none⟩ = some (.slice A3 n3 c3) := (Bi_1.cell 5).trans rfl
            have i_1_f5 := Bi_1.frozen 5
            go_wp2
            go_ret
            exact ⟨by simp [lean8], bl1⟩
  · cases sq
    · cases hn2 : ((n2 : Int) == 0)
      · go_enter Tryd.func44, Tryd.ntmps44
        go_wp2_with fail
        (with_reducible refine (HQ.out _).mono ?_); rintro e v1 ⟨rfl, hb1⟩
        have st1 := bl_step (bl_alloc (Below.refl _ _) _) hb1
        have bl1 := st1
        have Bi_1 : Blk v1 (w.heap.size) 27 #[.int .i64 k, .int .i64 cap, .slice A1 n1 c1, .slice A2 n2 c2, .int .i64 sz, .slice A3 n3 c3] := (Blk.new _ _ _).below hb1
        have i_1_z : w.heap.size < v1.heap.size := Bi_1.lt
        have i_1_c0 : v1.cell? ⟨w.heap.size, 0, none⟩ = some (.int .i64 k) := (Bi_1.cell 0).trans rfl
        have i_1_f0 := Bi_1.frozen 0
        have i_1_c1 : v1.cell? ⟨w.heap.size, 1, none⟩ = some (.int .i64 cap) := (Bi_1.cell 1).trans rfl
        have i_1_f1 := Bi_1.frozen 1
        have i_1_c2 : v1.cell? ⟨w.heap.size, 2, none⟩ = some (.slice A1 n1 c1) := (Bi_1.cell 2).trans rfl
        have i_1_f2 := Bi_1.frozen 2
        have i_1_c3 : v1.cell? ⟨w.heap.size, 3, none⟩ = some (.slice A2 n2 c2) := (Bi_1.cell 3).trans rfl
        have i_1_f3 := Bi_1.frozen 3
        have i_1_c4 : v1.cell? ⟨w.heap.size, 4, none⟩ = some (.int .i64 sz) := (Bi_1.cell 4).trans rfl
        have i_1_f4 := Bi_1.frozen 4
        have i_1_c5 : v1.cell? ⟨w.heap.size, 5, none⟩ = some (.slice A3 n3 c3) := (Bi_1.cell 5).trans rfl
        have i_1_f5 := Bi_1.frozen 5
        go_wp2
        go_ret
        exact ⟨by simp [lean8], bl1⟩
      · cases hk3 : (k == 3)
        · cases hsz : (sz == 0)
          · go_enter Tryd.func44, Tryd.ntmps44
            go_wp2_with fail
            (with_reducible refine (HQ.out _).mono ?_); rintro e v1 ⟨rfl, hb1⟩
            have st1 := bl_step (bl_alloc (Below.refl _ _) _) hb1
            have bl1 := st1
            have Bi_1 : Blk v1 (w.heap.size) 27 #[.int .i64 k, .int .i64 cap, .slice A1 n1 c1, .slice A2 n2 c2, .int .i64 sz, .slice A3 n3 c3] := (Blk.new _ _ _).below hb1
            have i_1_z : w.heap.size < v1.heap.size := Bi_1.lt
            have i_1_c0 : v1.cell? ⟨w.heap.size, 0, none⟩ = some (.int .i64 k) := (Bi_1.cell 0).trans rfl
            have i_1_f0 := Bi_1.frozen 0
            have i_1_c1 : v1.cell? ⟨w.heap.size, 1, none⟩ = some (.int .i64 cap) := (Bi_1.cell 1).trans rfl
            have i_1_f1 := Bi_1.frozen 1
            have i_1_c2 : v1.cell? ⟨w.heap.size, 2, none⟩ = some (.slice A1 n1 c1) := (Bi_1.cell 2).trans rfl
            have i_1_f2 := Bi_1.frozen 2
            have i_1_c3 : v1.cell? ⟨w.heap.size, 3, none⟩ = some (.slice A2 n2 c2) := (Bi_1.cell 3).trans rfl
            have i_1_f3 := Bi_1.frozen 3
            have i_1_c4 : v1.cell? ⟨w.heap.size, 4, none⟩ = some (.int .i64 sz) := (Bi_1.cell 4).trans rfl
            have i_1_f4 := Bi_1.frozen 4
            have i_1_c5 : v1.cell? ⟨w.heap.size, 5, none⟩ = some (.slice A3 n3 c3) := (Bi_1.cell 5).trans rfl
            have i_1_f5 := Bi_1.frozen 5
            go_wp2
            go_ret
            exact ⟨by simp [lean8], bl1⟩
          · cases hn3 : ((n3 : Int) == 0)
            · go_enter Tryd.func44, Tryd.ntmps44
              go_wp2_with fail
              (with_reducible refine (HQ.out _).mono ?_); rintro e v1 ⟨rfl, hb1⟩
              have st1 := bl_step (bl_alloc (Below.refl _ _) _) hb1
              have bl1 := st1
              have Bi_1 : Blk v1 (w.heap.size) 27 #[.int .i64 k, .int .i64 cap, .slice A1 n1 c1, .slice A2 n2 c2, .int .i64 sz, .slice A3 n3 c3] := (Blk.new _ _ _).below hb1
              have i_1_z : w.heap.size < v1.heap.size := Bi_1.lt
              have i_1_c0 : v1.cell? ⟨w.heap.size, 0, none⟩ = some (.int .i64 k) := (Bi_1.cell 0).trans rfl
              have i_1_f0 := Bi_1.frozen 0
              have i_1_c1 : v1.cell? ⟨w.heap.size, 1, none⟩ = some (.int .i64 cap) := (Bi_1.cell 1).trans rfl
              have i_1_f1 := Bi_1.frozen 1
              have i_1_c2 : v1.cell? ⟨w.heap.size, 2, none⟩ = some (.slice A1 n1 c1) := (Bi_1.cell 2).trans rfl
              have i_1_f2 := Bi_1.frozen 2
              have i_1_c3 : v1.cell? ⟨w.heap.size, 3, none⟩ = some (.slice A2 n2 c2) := (Bi_1.cell 3).trans rfl
              have i_1_f3 := Bi_1.frozen 3
              have i_1_c4 : v1.cell? ⟨w.heap.size, 4, none⟩ = some (.int .i64 sz) := (Bi_1.cell 4).trans rfl
              have i_1_f4 := Bi_1.frozen 4
              have i_1_c5 : v1.cell? ⟨w.heap.size, 5, none⟩ = some (.slice A3 n3 c3) := (Bi_1.cell 5).trans rfl
              have i_1_f5 := Bi_1.frozen 5
              go_wp2
              go_ret
              exact ⟨by simp [lean8], bl1⟩
            · go_enter Tryd.func44, Tryd.ntmps44
              go_wp2_with fail
              (with_reducible refine (HQ.out _).mono ?_); rintro e v1 ⟨rfl, hb1⟩
              have st1 := bl_step (bl_alloc (Below.refl _ _) _) hb1
              have bl1 := st1
              have Bi_1 : Blk v1 (w.heap.size) 27 #[.int .i64 k, .int .i64 cap, .slice A1 n1 c1, .slice A2 n2 c2, .int .i64 sz, .slice A3 n3 c3] := (Blk.new _ _ _).below hb1
              have i_1_z : w.heap.size < v1.heap.size := Bi_1.lt
              have i_1_c0 : v1.cell? ⟨w.heap.size, 0, none⟩ = some (.int .i64 k) := (Bi_1.cell 0).trans rfl
              have i_1_f0 := Bi_1.frozen 0
              have i_1_c1 : v1.cell? ⟨w.heap.size, 1, none⟩ = some (.int .i64 cap) := (Bi_1.cell 1).trans rfl
              have i_1_f1 := Bi_1.frozen 1
              have i_1_c2 : v1.cell? ⟨w.heap.size, 2, none⟩ = some (.slice A1 n1 c1) := (Bi_1.cell 2).trans rfl
              have i_1_f2 := Bi_1.frozen 2
              have i_1_c3 : v1.cell? ⟨w.heap.size, 3, none⟩ = some (.slice A2 n2 c2) := (Bi_1.cell 3).trans rfl
              have i_1_f3 := Bi_1.frozen 3
              have i_1_c4 : v1.cell? ⟨w.heap.size, 4, none⟩ = some (.int .i64 sz) := (Bi_1.cell 4).trans rfl
              have i_1_f4 := Bi_1.frozen 4
              have i_1_c5 : v1.cell? ⟨w.heap.size, 5, none⟩ = some (.slice A3 n3 c3) := (Bi_1.cell 5).trans rfl
              have i_1_f5 := Bi_1.frozen 5
              go_wp2
              go_ret
              exact ⟨by simp [lean8], bl1⟩
        · go_enter Tryd.func44, Tryd.ntmps44
          go_wp2_with fail
          (with_reducible refine (HQ.out _).mono ?_); rintro e v1 ⟨rfl, hb1⟩
          have st1 := bl_step (bl_alloc (Below.refl _ _) _) hb1
          have bl1 := st1
          have Bi_1 : Blk v1 (w.heap.size) 27 #[.int .i64 k, .int .i64 cap, .slice A1 n1 c1, .slice A2 n2 c2, .int .i64 sz, .slice A3 n3 c3] := (Blk.new _ _ _).below hb1
          have i_1_z : w.heap.size < v1.heap.size := Bi_1.lt
          have i_1_c0 : v1.cell? ⟨w.heap.size, 0, none⟩ = some (.int .i64 k) := (Bi_1.cell 0).trans rfl
          have i_1_f0 := Bi_1.frozen 0
          have i_1_c1 : v1.cell? ⟨w.heap.size, 1, none⟩ = some (.int .i64 cap) := (Bi_1.cell 1).trans rfl
          have i_1_f1 := Bi_1.frozen 1
          have i_1_c2 : v1.cell? ⟨w.heap.size, 2, none⟩ = some (.slice A1 n1 c1) := (Bi_1.cell 2).trans rfl
          have i_1_f2 := Bi_1.frozen 2
          have i_1_c3 : v1.cell? ⟨w.heap.size, 3, none⟩ = some (.slice A2 n2 c2) := (Bi_1.cell 3).trans rfl
          have i_1_f3 := Bi_1.frozen 3
          have i_1_c4 : v1.cell? ⟨w.heap.size, 4, none⟩ = some (.int .i64 sz) := (Bi_1.cell 4).trans rfl
          have i_1_f4 := Bi_1.frozen 4
          have i_1_c5 : v1.cell? ⟨w.heap.size, 5, none⟩ = some (.slice A3 n3 c3) := (Bi_1.cell 5).trans rfl
          have i_1_f5 := Bi_1.frozen 5
          go_wp2
          go_ret
          exact ⟨by simp [lean8], bl1⟩
    · cases hk3 : (k == 3)
      · cases hsz : (sz == 0)
        · go_enter Tryd.func44, Tryd.ntmps44
          go_wp2_with fail
          (with_reducible refine (HQ.out _).mono ?_); rintro e v1 ⟨rfl, hb1⟩
          have st1 := bl_step (bl_alloc (Below.refl _ _) _) hb1
          have bl1 := st1
          have Bi_1 : Blk v1 (w.heap.size) 27 #[.int .i64 k, .int .i64 cap, .slice A1 n1 c1, .slice A2 n2 c2, .int .i64 sz, .slice A3 n3 c3] := (Blk.new _ _ _).below hb1
          have i_1_z : w.heap.size < v1.heap.size := Bi_1.lt
          have i_1_c0 : v1.cell? ⟨w.heap.size, 0, none⟩ = some (.int .i64 k) := (Bi_1.cell 0).trans rfl
          have i_1_f0 := Bi_1.frozen 0
          have i_1_c1 : v1.cell? ⟨w.heap.size, 1, none⟩ = some (.int .i64 cap) := (Bi_1.cell 1).trans rfl
          have i_1_f1 := Bi_1.frozen 1
          have i_1_c2 : v1.cell? ⟨w.heap.size, 2, none⟩ = some (.slice A1 n1 c1) := (Bi_1.cell 2).trans rfl
          have i_1_f2 := Bi_1.frozen 2
          have i_1_c3 : v1.cell? ⟨w.heap.size, 3, none⟩ = some (.slice A2 n2 c2) := (Bi_1.cell 3).trans rfl
          have i_1_f3 := Bi_1.frozen 3
          have i_1_c4 : v1.cell? ⟨w.heap.size, 4, none⟩ = some (.int .i64 sz) := (Bi_1.cell 4).trans rfl
          have i_1_f4 := Bi_1.frozen 4
          have i_1_c5 : v1.cell? ⟨w.heap.size, 5, none⟩ = some (.slice A3 n3 c3) := (Bi_1.cell 5).trans rfl
          have i_1_f5 := Bi_1.frozen 5
          go_wp2
          go_ret
          exact ⟨by simp [lean8], bl1⟩
        · cases hn3 : ((n3 : Int) == 0)
          · go_enter Tryd.func44, Tryd.ntmps44
            go_wp2_with fail
            (with_reducible refine (HQ.out _).mono ?_); rintro e v1 ⟨rfl, hb1⟩
            have st1 := bl_step (bl_alloc (Below.refl _ _) _) hb1
            have bl1 := st1
            have Bi_1 : Blk v1 (w.heap.size) 27 #[.int .i64 k, .int .i64 cap, .slice A1 n1 c1, .slice A2 n2 c2, .int .i64 sz, .slice A3 n3 c3] := (Blk.new _ _ _).below hb1
            have i_1_z : w.heap.size < v1.heap.size := Bi_1.lt
            have i_1_c0 : v1.cell? ⟨w.heap.size, 0, none⟩ = some (.int .i64 k) := (Bi_1.cell 0).trans rfl
            have i_1_f0 := Bi_1.frozen 0
            have i_1_c1 : v1.cell? ⟨w.heap.size, 1, none⟩ = some (.int .i64 cap) := (Bi_1.cell 1).trans rfl
            have i_1_f1 := Bi_1.frozen 1
            have i_1_c2 : v1.cell? ⟨w.heap.size, 2, none⟩ = some (.slice A1 n1 c1) := (Bi_1.cell 2).trans rfl
            have i_1_f2 := Bi_1.frozen 2
            have i_1_c3 : v1.cell? ⟨w.heap.size, 3, none⟩ = some (.slice A2 n2 c2) := (Bi_1.cell 3).trans rfl
            have i_1_f3 := Bi_1.frozen 3
            have i_1_c4 : v1.cell? ⟨w.heap.size, 4, none⟩ = some (.int .i64 sz) := (Bi_1.cell 4).trans rfl
            have i_1_f4 := Bi_1.frozen 4
            have i_1_c5 : v1.cell? ⟨w.heap.size, 5, none⟩ = some (.slice A3 n3 c3) := (Bi_1.cell 5).trans rfl
            have i_1_f5 := Bi_1.frozen 5
            go_wp2
            go_ret
            exact ⟨by simp [lean8], bl1⟩
          · go_enter Tryd.func44, Tryd.ntmps44
            go_wp2_with fail
            (with_reducible refine (HQ.out _).mono ?_); rintro e v1 ⟨rfl, hb1⟩
            have st1 := bl_step (bl_alloc (Below.refl _ _) _) hb1
            have bl1 := st1
            have Bi_1 : Blk v1 (w.heap.size) 27 #[.int .i64 k, .int .i64 cap, .slice A1 n1 c1, .slice A2 n2 c2, .int .i64 sz, .slice A3 n3 c3] := (Blk.new _ _ _).below hb1
            have i_1_z : w.heap.size < v1.heap.size := Bi_1.lt
            have i_1_c0 : v1.cell? ⟨w.heap.size, 0, none⟩ = some (.int .i64 k) := (Bi_1.cell 0).trans rfl
            have i_1_f0 := Bi_1.frozen 0
            have i_1_c1 : v1.cell? ⟨w.heap.size, 1, none⟩ = some (.int .i64 cap) := (Bi_1.cell 1).trans rfl
            have i_1_f1 := Bi_1.frozen 1
            have i_1_c2 : v1.cell? ⟨w.heap.size, 2, none⟩ = some (.slice A1 n1 c1) := (Bi_1.cell 2).trans rfl
            have i_1_f2 := Bi_1.frozen 2
            have i_1_c3 : v1.cell? ⟨w.heap.size, 3, none⟩ = some (.slice A2 n2 c2) := (Bi_1.cell 3).trans rfl
            have i_1_f3 := Bi_1.frozen 3
            have i_1_c4 : v1.cell? ⟨w.heap.size, 4, none⟩ = some (.int .i64 sz) := (Bi_1.cell 4).trans rfl
            have i_1_f4 := Bi_1.frozen 4
            have i_1_c5 : v1.cell? ⟨w.heap.size, 5, none⟩ = some (.slice A3 n3 c3) := (Bi_1.cell 5).trans rfl
            have i_1_f5 := Bi_1.frozen 5
            go_wp2
            go_ret
            exact ⟨by simp [lean8], bl1⟩
      · go_enter Tryd.func44, Tryd.ntmps44
        go_wp2_with fail
        (with_reducible refine (HQ.out _).mono ?_); rintro e v1 ⟨rfl, hb1⟩
        have st1 := bl_step (bl_alloc (Below.refl _ _) _) hb1
        have bl1 := st1
        have Bi_1 : Blk v1 (w.heap.size) 27 #[.int .i64 k, .int .i64 cap, .slice A1 n1 c1, .slice A2 n2 c2, .int .i64 sz, .slice A3 n3 c3] := (Blk.new _ _ _).below hb1
        have i_1_z : w.heap.size < v1.heap.size := Bi_1.lt
        have i_1_c0 : v1.cell? ⟨w.heap.size, 0, none⟩ = some (.int .i64 k) := (Bi_1.cell 0).trans rfl
        have i_1_f0 := Bi_1.frozen 0
        have i_1_c1 : v1.cell? ⟨w.heap.size, 1, none⟩ = some (.int .i64 cap) := (Bi_1.cell 1).trans rfl
        have i_1_f1 := Bi_1.frozen 1
        have i_1_c2 : v1.cell? ⟨w.heap.size, 2, none⟩ = some (.slice A1 n1 c1) := (Bi_1.cell 2).trans rfl
        have i_1_f2 := Bi_1.frozen 2
        have i_1_c3 : v1.cell? ⟨w.heap.size, 3, none⟩ = some (.slice A2 n2 c2) := (Bi_1.cell 3).trans rfl
        have i_1_f3 := Bi_1.frozen 3
        have i_1_c4 : v1.cell? ⟨w.heap.size, 4, none⟩ = some (.int .i64 sz) := (Bi_1.cell 4).trans rfl
        have i_1_f4 := Bi_1.frozen 4
        have i_1_c5 : v1.cell? ⟨w.heap.size, 5, none⟩ = some (.slice A3 n3 c3) := (Bi_1.cell 5).trans rfl
        have i_1_f5 := Bi_1.frozen 5
        go_wp2
        go_ret
        exact ⟨by simp [lean8], bl1⟩
end Go.Proofs.YtklomjpnmmaogaaDoor
