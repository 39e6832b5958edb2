/- The walk of the reference's Simplest. -/
import Derived.Test.YtkdklmkcanjjfaaDoorSimMath
namespace Go.Proofs.YtkdklmkcanjjfaaDoor
open Go.RowKit
set_option linter.unusedVariables false
set_option linter.unusedSimpArgs false
set_option maxRecDepth 100000

set_option maxHeartbeats 1600000 in
theorem bsimp_gt (a b c d : Int) (w : World) (ha : SmR a b) (hc : SmR c d) (hx : 0 < cmpR a b c d) :
    Calls Tryd.prog 36 #[.int .i64 a, .int .i64 b, .int .i64 c, .int .i64 d, .int .i64 400] w fun e w' => e = .returned (.tuple #[.int .i64 0, .int .i64 0, .bool false]) ∧ Below w.heap.size w w' := by
  have HG1 := fun w => bgood_any a b w ha.in_.1 ha.in_.2
  have HG2 := fun w => bgood_any c d w hc.in_.1 hc.in_.2
  have HC := fun w => bcmp_any a b c d w ha.in_.1 ha.in_.2 hc.in_.1 hc.in_.2
  rw [ha.good] at HG1
  rw [hc.good] at HG2
  have HG1 := Lib.hid HG1
  have HG2 := Lib.hid HG2
  generalize cmpR a b c d = x at HC hx
  have HC := Lib.hid HC
  clear ha hc
  go_enter Tryd.func36, Tryd.ntmps36
  go_wp2_with fail
  refine (HG1.out _).mono ?_; rintro e v1 ⟨rfl, hb1⟩
  have st1 := bl_step (Below.refl _ _) hb1
  have bl1 := st1
  go_wp2_with fail
  refine (HG2.out _).mono ?_; rintro e v2 ⟨rfl, hb2⟩
  have st2 := bl_step (Below.refl _ _) hb2
  have bl2 := bl_step bl1 st2
  go_wp2_with fail
  refine (HC.out _).mono ?_; rintro e v3 ⟨rfl, hb3⟩
  have st3 := bl_step (Below.refl _ _) hb3
  have bl3 := bl_step bl2 st3
  go_wp2
  go_ret3
  exact ⟨rfl, bl3⟩
set_option maxHeartbeats 3200000 in
theorem bsimp_yes (a b c d N D : Int) (w : World) (ha : SmR a b) (hc : SmR c d) (hx : cmpR a b c d ≤ 0) (hL : LeastK a b c d N D) :
    Calls Tryd.prog 36 #[.int .i64 a, .int .i64 b, .int .i64 c, .int .i64 d, .int .i64 400] w fun e w' => e = .returned (.tuple #[.int .i64 N, .int .i64 D, .bool true]) ∧ Below w.heap.size w w' := by
  have HG1 := fun w => bgood_any a b w ha.in_.1 ha.in_.2
  have HG2 := fun w => bgood_any c d w hc.in_.1 hc.in_.2
  have HC := fun w => bcmp_any a b c d w ha.in_.1 ha.in_.2 hc.in_.1 hc.in_.2
  rw [ha.good] at HG1
  rw [hc.good] at HG2
  have HG1 := Lib.hid HG1
  have HG2 := Lib.hid HG2
  generalize cmpR a b c d = x at HC hx
  have HC := Lib.hid HC
  have D1 := hL.d1
  have D2 := hL.d2
  have HA := Lib.hid ha
  have HS := Lib.hid hc
  have HL := Lib.hid hL
  clear ha hc hL
  go_enter Tryd.func36, Tryd.ntmps36
  go_wp2_with fail
  refine (HG1.out _).mono ?_; rintro e v1 ⟨rfl, hb1⟩
  have st1 := bl_step (Below.refl _ _) hb1
  have bl1 := st1
  go_wp2_with fail
  refine (HG2.out _).mono ?_; rintro e v2 ⟨rfl, hb2⟩
  have st2 := bl_step (Below.refl _ _) hb2
  have bl2 := bl_step bl1 st2
  go_wp2_with fail
  refine (HC.out _).mono ?_; rintro e v3 ⟨rfl, hb3⟩
  have st3 := bl_step (Below.refl _ _) hb3
  have bl3 := bl_step bl2 st3
  go_wp2_with fail
  go_loopw [16] (fun vk wr => ∃ k : Int, vk = .int .i64 k ∧ 1 ≤ k ∧ k ≤ D ∧ Below w.heap.size w wr) (fun vk _ => (400 - intOf vk).toNat)
  case atStart => exact ⟨1, rfl, by omega, D1, bl3⟩
  case round =>
    clear bl1 bl2 bl3
    obtain ⟨k, rfl, k1, k2, be⟩ := hrel
    obtain ⟨p1, p2⟩ := small_mul HA.out.a1 HA.out.a2 k1 (by omega)
    obtain ⟨q1, q2⟩ := small_mul HS.out.a1 HS.out.a2 k1 (by omega)
    have ib := HA.out.in_.2
    have b0 := HA.out.b1
    have id := HS.out.in_.2
    have d0 := HS.out.b1
    have hl := HL.out
    have hno := hl.none_ k k1
    have hso := hl.some_
    have hre := hl.res
    clear hl
    have i1 := quo_in (a * k) b ⟨by omega, by omega⟩ ib (by omega) (by omega) true
    have i2 := quo_in (c * k) d ⟨by omega, by omega⟩ id (by omega) (by omega) false
    have H1 := fun w => BFloor_any (a * k) b true w ⟨by omega, by omega⟩ ib (by omega)
    have H2 := fun w => BFloor_any (c * k) d false w ⟨by omega, by omega⟩ id (by omega)
    rw [fitN_of i1, fitB_iff.2 i1] at H1
    rw [fitN_of i2, fitB_iff.2 i2] at H2
    replace H1 := Lib.hid H1
    replace H2 := Lib.hid H2
    have hw1 : IntKind.i64.wrap (a * k) = a * k := wrap_id ⟨by omega, by omega⟩
    have hw2 : IntKind.i64.wrap (c * k) = c * k := wrap_id ⟨by omega, by omega⟩
    rcases Int.lt_or_le k D with hk | hk
    · have hlt := hno hk
      clear hno hso hre
      generalize quoR (a * k) b true = low at *
      generalize quoR (c * k) d false = high at *
      clear i1 i2 ib id
      obtain ⟨P, hP⟩ : ∃ P, a * k = P := ⟨_, rfl⟩
      obtain ⟨Q, hQ⟩ : ∃ Q, c * k = Q := ⟨_, rfl⟩
      rw [hP] at p1 p2 hw1 H1
      rw [hQ] at q1 q2 hw2 H2
      have bl60 : Below wr.heap.size wr wr := Below.refl _ _
      go_wp2_with fail
      refine (H1.out _).mono ?_; rintro e u61 ⟨rfl, hb61⟩
      have st61 := bl_step (Below.refl _ _) hb61
      have bl61 := bl_step bl60 st61
      go_wp2_with fail
      refine (H2.out _).mono ?_; rintro e u62 ⟨rfl, hb62⟩
      have st62 := bl_step (Below.refl _ _) hb62
      have bl62 := bl_step bl61 st62
      go_wp2_with fail
      go_roundw
      case rel => exact ⟨k + 1, by go_num, by omega, by omega, bl_step be bl62⟩
      case measure => simp only [intOf]; omega
    · obtain rfl : k = D := by omega
      clear hno hk
      generalize quoR (a * k) b true = low at *
      generalize quoR (c * k) d false = high at *
      clear i1 i2 ib id
      obtain ⟨P, hP⟩ : ∃ P, a * k = P := ⟨_, rfl⟩
      obtain ⟨Q, hQ⟩ : ∃ Q, c * k = Q := ⟨_, rfl⟩
      rw [hP] at p1 p2 hw1 H1
      rw [hQ] at q1 q2 hw2 H2
      clear HL
      rcases hre with ⟨r1, r2, r3, r4⟩ | ⟨r1, r3⟩ | ⟨r1, r2, r3⟩
      · subst r3
        subst r4
        have be2 := be
        have bl60 : Below wr.heap.size wr wr := Below.refl _ _
        go_wp2_with fail
        refine (H1.out _).mono ?_; rintro e u61 ⟨rfl, hb61⟩
        have st61 := bl_step (Below.refl _ _) hb61
        have bl61 := bl_step bl60 st61
        go_wp2_with fail
        refine (H2.out _).mono ?_; rintro e u62 ⟨rfl, hb62⟩
        have st62 := bl_step (Below.refl _ _) hb62
        have bl62 := bl_step bl61 st62
        go_wp2
        go_ret3
        exact ⟨rfl, bl_step be bl62⟩
      · subst r3
        have bl60 : Below wr.heap.size wr wr := Below.refl _ _
        go_wp2_with fail
        refine (H1.out _).mono ?_; rintro e u61 ⟨rfl, hb61⟩
        have st61 := bl_step (Below.refl _ _) hb61
        have bl61 := bl_step bl60 st61
        go_wp2_with fail
        refine (H2.out _).mono ?_; rintro e u62 ⟨rfl, hb62⟩
        have st62 := bl_step (Below.refl _ _) hb62
        have bl62 := bl_step bl61 st62
        go_wp2
        go_ret3
        exact ⟨rfl, bl_step be bl62⟩
      · subst r3
        have bl60 : Below wr.heap.size wr wr := Below.refl _ _
        go_wp2_with fail
        refine (H1.out _).mono ?_; rintro e u61 ⟨rfl, hb61⟩
        have st61 := bl_step (Below.refl _ _) hb61
        have bl61 := bl_step bl60 st61
        go_wp2_with fail
        refine (H2.out _).mono ?_; rintro e u62 ⟨rfl, hb62⟩
        have st62 := bl_step (Below.refl _ _) hb62
        have bl62 := bl_step bl61 st62
        go_wp2
        go_ret3
        exact ⟨rfl, bl_step be bl62⟩

theorem bsimp_any (a b c d : Int) (w : World) (ha : SmR a b) (hc : SmR c d) :
    Calls Tryd.prog 36 #[.int .i64 a, .int .i64 b, .int .i64 c, .int .i64 d, .int .i64 400] w fun e w' => e = .returned (.tuple #[.int .i64 (simpR a b c d).1, .int .i64 (simpR a b c d).2.1, .bool (simpR a b c d).2.2]) ∧ Below w.heap.size w w' := by
  by_cases hx : cmpR a b c d ≤ 0
  · obtain ⟨N, D, e, hL⟩ := simp_least ha hc hx
    rw [e]
    exact bsimp_yes a b c d N D w ha hc hx hL
  · rw [near_none (fun h => hx h.2)]
    exact bsimp_gt a b c d w ha hc (by omega)
end Go.Proofs.YtkdklmkcanjjfaaDoor
