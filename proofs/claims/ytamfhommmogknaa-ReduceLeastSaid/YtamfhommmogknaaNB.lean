/- The walks of package num, part B. -/
import Derived.Test.YtamfhommmogknaaNumA
import Derived.Deep.RegionWith
import Derived.StillTailTactics
namespace Go.Proofs.Ytamfhommmogknaa
open Go.RowKit
set_option linter.unusedVariables false
set_option linter.unusedSimpArgs false
set_option maxRecDepth 100000

set_option maxHeartbeats 400000 in
theorem or_any (x y : Int) (b : Nat) (w : World) (h0 : w.cell? ⟨b, 0, none⟩ = some (.int .i64 x)) (h1 : w.cell? ⟨b, 1, none⟩ = some (.int .i64 y)) :
    Calls Try.prog 43 #[.slice (some ⟨b, 0, none⟩) 2 2] w fun e w' => e = .returned (.int .i64 (or2 x y)) ∧ w = w' := by
  unfold or2
  by_cases hx : x = 0
  · have hx1 : (x != 0) = false := by simp [hx]
    rw [if_pos hx]
    clear hx
    by_cases hy : y = 0
    · have hy1 : (y != 0) = false := by simp [hy]
      have HY := Lib.hid hy
      clear hy
      go_enter Try.func43, Try.ntmps43
      go_wp2
      refine wp_loop_rounds 3 ?_
      rw [rounds_succ]
      go_wp2
      rw [rounds_succ]
      go_wp2
      rw [rounds_succ]
      go_wp2
      go_ret
      exact ⟨by rw [HY.out]; rfl, rfl⟩
    · have hy1 : (y != 0) = true := by simpa using hy
      clear hy
      go_enter Try.func43, Try.ntmps43
      go_wp2
      refine wp_loop_rounds 3 ?_
      rw [rounds_succ]
      go_wp2
      rw [rounds_succ]
      go_wp2
      go_ret
      exact ⟨rfl, rfl⟩
  · have hx1 : (x != 0) = true := by simpa using hx
    rw [if_neg hx]
    clear hx
    go_enter Try.func43, Try.ntmps43
    go_wp2
    refine wp_loop_rounds 3 ?_
    rw [rounds_succ]
    go_wp2
    go_ret
    exact ⟨rfl, rfl⟩

theorem compare_still (x y : Int) (w : World) : Calls Try.prog 44 #[.int .u64 x, .int .u64 y] w fun e w' => e = .returned (.int .i64 (cmp3 x y)) ∧ w' = w :=
  (compare_any x y w).mono fun _ _ h => ⟨h.1, h.2.symm⟩
set_option maxHeartbeats 400000 in
theorem distance_any (n m : Bool) (h l h' l' a b : Int) (w : World) (ka : IsW n h l a) (kb : IsW m h' l' b) :
    Calls Try.prog 38 #[.agg #[.bool n, .int .u64 h, .int .u64 l], .agg #[.bool m, .int .u64 h', .int .u64 l']] w fun e w' => e = .returned (.int .i64 (cmp3 a.natAbs b.natAbs)) ∧ Below w.heap.size w w' := by
  go_enter Try.func38, Try.ntmps38
  go_wp2_with fail
  refine wp_region_still_tail 10 (by kernel_rfl) (by kernel_rfl) ?_
  simp only [List.take_succ_cons, List.take_zero, List.drop_succ_cons, List.drop_zero]
  change wpStill _ _ (World.drew _) _ _ _
  repeat (first | still_step | still_call (compare_still _ _ _))
  refine wpStill_nil ?_
  change wpList _ _ _ _ _ (World.drew _)
  go_wp2_with (go_at_call 43; refine (or_any (cmp3 h h') (cmp3 l l') _ _ (by go_simp) (by go_simp)).mono ?_; rintro e w' ⟨rfl, rfl⟩)
  go_ret
  refine ⟨?_, bl_alloc (bl_drew (bl_alloc (bl_alloc (Below.refl _ _) _) _)) _⟩
  show Ending.returned (.int .i64 (or2 (cmp3 h h') (cmp3 l l'))) = _
  congr 2
  have k1 := ka.h1; have k2 := ka.l1; have k3 := kb.h1; have k4 := kb.l1
  have j1 := ka.h0; have j2 := ka.l0; have j3 := kb.h0; have j4 := kb.l0
  have ea : (a.natAbs : Int) = h * 18446744073709551616 + l := by rcases ka.cases_ with ⟨_, _, _⟩ | ⟨_, _, _⟩ <;> omega
  have eb : (b.natAbs : Int) = h' * 18446744073709551616 + l' := by rcases kb.cases_ with ⟨_, _, _⟩ | ⟨_, _, _⟩ <;> omega
  rw [ea, eb]
  unfold or2 cmp3
  by_cases c1 : h < h'
  · rw [if_pos c1, if_neg (by omega), if_pos (by omega)]
  · by_cases c2 : h = h'
    · rw [if_neg c1, if_pos c2, if_pos rfl]
      by_cases c3 : l < l'
      · rw [if_pos c3, if_pos (by omega)]
      · by_cases c4 : l = l'
        · rw [if_neg c3, if_pos c4, if_neg (by omega), if_pos (by omega)]
        · rw [if_neg c3, if_neg c4, if_neg (by omega), if_neg (by omega)]
    · rw [if_neg c1, if_neg c2, if_neg (by omega), if_neg (by omega), if_neg (by omega)]

set_option maxHeartbeats 1000000 in
theorem short_any (n : Bool) (h l z : Int) (w : World) (k : IsW n h l z) :
    Calls Try.prog 33 #[.agg #[.bool n, .int .u64 h, .int .u64 l]] w fun e w' => e = .returned (.tuple #[.int .i64 (fitN z), .bool (fitB z)]) ∧ Below w.heap.size w w' := by
  have a0 := k.h0; have a1 := k.h1; have a2 := k.l0; have a3 := k.l1
  by_cases hh : h = 0
  · have hh1 : (h != 0) = false := by simp [hh]
    have HH := Lib.hid hh
    clear hh
    cases n
    · have kc : z = h * 18446744073709551616 + l := by rcases k.cases_ with ⟨x, _, _⟩ | ⟨_, _, y⟩; cases x; exact y
      have KC := Lib.hid kc
      clear kc
      by_cases hl : 9223372036854775807 < l
      · go_enter Try.func33, Try.ntmps33
        go_wp2
        go_ret2
        exact ⟨fit_no (by have := KC.out; have := HH.out; omega), bl_alloc (Below.refl _ _) _⟩
      · go_enter Try.func33, Try.ntmps33
        go_wp2
        go_ret2
        exact ⟨fit_yes (by have := KC.out; have := HH.out; omega) (by have := KC.out; have := HH.out; show l = z; omega), bl_alloc (Below.refl _ _) _⟩
    · have kc : z = -(h * 18446744073709551616 + l) := by rcases k.cases_ with ⟨_, _, y⟩ | ⟨x, _, _⟩; exact y; cases x
      have kz : z < 0 := by rcases k.cases_ with ⟨_, y, _⟩ | ⟨x, _, _⟩; exact y; cases x
      have KC := Lib.hid kc
      clear kc
      by_cases hl : 9223372036854775808 < l
      · go_enter Try.func33, Try.ntmps33
        go_wp2
        go_ret2
        exact ⟨fit_no (by have := KC.out; have := HH.out; omega), bl_alloc (Below.refl _ _) _⟩
      · go_enter Try.func33, Try.ntmps33
        go_wp2
        go_ret2
        exact ⟨fit_yes (by have := KC.out; have := HH.out; omega) (by have := KC.out; have := HH.out; rw [IntKind.wrap_u64]; unfold wrap64; omega), bl_alloc (Below.refl _ _) _⟩
  · have hh1 : (h != 0) = true := by simpa using hh
    have HH := Lib.hid hh
    clear hh
    go_enter Try.func33, Try.ntmps33
    go_wp2
    go_ret2
    exact ⟨fit_no (by have := HH.out; rcases k.cases_ with ⟨_, _, _⟩ | ⟨_, _, _⟩ <;> omega), bl_alloc (Below.refl _ _) _⟩

end Go.Proofs.Ytamfhommmogknaa
