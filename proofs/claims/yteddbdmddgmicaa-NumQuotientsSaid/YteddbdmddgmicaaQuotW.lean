/- The walk of NumQuotients: every quotient and every greatest common divisor is the document's, or there is none. -/
import Derived.Test.YteddbdmddgmicaaRefJ
namespace Go.Proofs.Yteddbdmddgmicaa
open Go.RowKit
set_option linter.unusedVariables false
set_option linter.unusedSimpArgs false

set_option maxHeartbeats 6400000 in
set_option maxRecDepth 100000 in
theorem Quo_core (a b x y z : Int) (p q r : Bool) (w : World) (H1 : Hid (∀ w, Calls Try.prog 15 #[.int .i64 a, .int .i64 b] w fun e w' => e = .returned (.tuple #[.int .i64 x, .bool p]) ∧ Below w.heap.size w w')) (H2 : Hid (∀ w, Calls Try.prog 24 #[.int .i64 a, .int .i64 b, .bool false] w fun e w' => e = .returned (.tuple #[.int .i64 x, .bool p]) ∧ Below w.heap.size w w')) (H3 : Hid (∀ w, Calls Try.prog 16 #[.int .i64 a, .int .i64 b] w fun e w' => e = .returned (.tuple #[.int .i64 y, .bool q]) ∧ Below w.heap.size w w')) (H4 : Hid (∀ w, Calls Try.prog 24 #[.int .i64 a, .int .i64 b, .bool true] w fun e w' => e = .returned (.tuple #[.int .i64 y, .bool q]) ∧ Below w.heap.size w w')) (H5 : Hid (∀ w, Calls Try.prog 25 #[.int .i64 a, .int .i64 b] w fun e w' => e = .returned (.tuple #[.int .i64 z, .bool r]) ∧ Below w.heap.size w w')) (H6 : Hid (∀ w, Calls Try.prog 26 #[.int .i64 a, .int .i64 b] w fun e w' => e = .returned (.tuple #[.int .i64 z, .bool r]) ∧ Below w.heap.size w w')) :
    Calls Try.prog 6 #[.int .i64 a, .int .i64 b] w fun e w' => e = .returned (.bool true) ∧ Below w.heap.size w w' := by
  go_enter Try.func6, Try.ntmps6
  go_wp2_with fail
  refine (H1.out _).mono ?_; rintro e v1 ⟨rfl, hb1⟩
  have st1 := bl_step (Below.refl _ _) hb1
  have bl1 := st1
  go_wp2_with fail
  refine (H2.out _).mono ?_; rintro e v2 ⟨rfl, hb2⟩
  have st2 := bl_step (Below.refl _ _) hb2
  have bl2 := bl_step bl1 st2
  go_wp2_with fail
  refine (H3.out _).mono ?_; rintro e v3 ⟨rfl, hb3⟩
  have st3 := bl_step (Below.refl _ _) hb3
  have bl3 := bl_step bl2 st3
  go_wp2_with fail
  refine (H4.out _).mono ?_; rintro e v4 ⟨rfl, hb4⟩
  have st4 := bl_step (Below.refl _ _) hb4
  have bl4 := bl_step bl3 st4
  go_wp2_with fail
  refine (H5.out _).mono ?_; rintro e v5 ⟨rfl, hb5⟩
  have st5 := bl_step (Below.refl _ _) hb5
  have bl5 := bl_step bl4 st5
  go_wp2_with fail
  refine (H6.out _).mono ?_; rintro e v6 ⟨rfl, hb6⟩
  have st6 := bl_step (Below.refl _ _) hb6
  have bl6 := bl_step bl5 st6
  go_wp2_with fail
  refine (wakes_any _).mono ?_; rintro e v7 ⟨rfl, hb7⟩
  have st7 := bl_step (Below.refl _ _) hb7
  have bl7 := bl_step bl6 st7
  go_wp2
  go_ret
  exact ⟨rfl, bl7⟩
theorem NumQuotients_walk (a b : Int) (w : World) (ia : InI a) (ib : InI b) :
    Calls Try.prog 6 #[.int .i64 a, .int .i64 b] w fun e w' => e = .returned (.bool true) ∧ Below w.heap.size w w' := by
  have HG := Lib.hid (fun w => Gcd_any a b w ia ib)
  have HB := Lib.hid (fun w => BGcd_any a b w ia ib)
  by_cases h : b = 0
  · subst h
    exact Quo_core a 0 0 0 _ false false _ w (Lib.hid (fun w => Floor_zero a w)) (Lib.hid (fun w => BFloor_zero a false w)) (Lib.hid (fun w => Ceil_zero a w)) (Lib.hid (fun w => BFloor_zero a true w)) HG HB
  · exact Quo_core a b _ _ _ _ _ _ w (Lib.hid (fun w => Floor_any a b w ia ib h)) (Lib.hid (fun w => BFloor_any a b false w ia ib h)) (Lib.hid (fun w => Ceil_any a b w ia ib h)) (Lib.hid (fun w => BFloor_any a b true w ia ib h)) HG HB
end Go.Proofs.Yteddbdmddgmicaa
