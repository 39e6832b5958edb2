/- The walks of package num, part B. -/
import Derived.Test.YtkdklmkcanjjfaaDoorNumA
import Derived.Deep.RegionWith
import Derived.StillTailTactics
namespace Go.Proofs.YtkdklmkcanjjfaaDoor
open Go.RowKit
set_option linter.unusedVariables false
set_option linter.unusedSimpArgs false
set_option maxRecDepth 100000

set_option maxHeartbeats 400000 in
theorem or_any (x y : Int) (b : Nat) (w : World) (h0 : w.cell? ⟨b, 0, none⟩ = some (.int .i64 x)) (h1 : w.cell? ⟨b, 1, none⟩ = some (.int .i64 y)) :
    Calls Tryd.prog 91 #[.slice (some ⟨b, 0, none⟩) 2 2] w fun e w' => e = .returned (.int .i64 (or2 x y)) ∧ w = w' := by
  unfold or2
  by_cases hx : x = 0
  · have hx1 : (x != 0) = false := by simp [hx]
    rw [if_pos hx]
    clear hx
    by_cases hy : y = 0
    · have hy1 : (y != 0) = false := by simp [hy]
      have HY := Lib.hid hy
      clear hy
      go_enter Tryd.func91, Tryd.ntmps91
      go_wp2
      refine wp_loop_rounds 3 ?_
      rw [rounds_succ]
      go_wp2
      rw [rounds_succ]
      go_wp2
      rw [rounds_succ]
      go_wp2
      go_ret
      exact ⟨by rw [HY.out]; rfl, rfl⟩
    · have hy1 : (y != 0) = true := by simpa using hy
      clear hy
      go_enter Tryd.func91, Tryd.ntmps91
      go_wp2
      refine wp_loop_rounds 3 ?_
      rw [rounds_succ]
      go_wp2
      rw [rounds_succ]
      go_wp2
      go_ret
      exact ⟨rfl, rfl⟩
  · have hx1 : (x != 0) = true := by simpa using hx
    rw [if_neg hx]
    clear hx
    go_enter Tryd.func91, Tryd.ntmps91
    go_wp2
    refine wp_loop_rounds 3 ?_
    rw [rounds_succ]
    go_wp2
    go_ret
    exact ⟨rfl, rfl⟩

theorem compare_still (x y : Int) (w : World) : Calls Tryd.prog 92 #[.int .u64 x, .int .u64 y] w fun e w' => e = .returned (.int .i64 (cmp3 x y)) ∧ w' = w :=
  (compare_any x y w).mono fun _ _ h => ⟨h.1, h.2.symm⟩
set_option maxHeartbeats 400000 in
theorem distance_any (n m : Bool) (h l h' l' a b : Int) (w : World) (ka : IsW n h l a) (kb : IsW m h' l' b) :
    Calls Tryd.prog 73 #[.agg #[.bool n, .int .u64 h, .int .u64 l], .agg #[.bool m, .int .u64 h', .int .u64 l']] w fun e w' => e = .returned (.int .i64 (cmp3 a.natAbs b.natAbs)) ∧ Below w.heap.size w w' := by
  go_enter Tryd.func73, Tryd.ntmps73
  go_wp2_with fail
  refine wp_region_still_tail 10 (by kernel_rfl) (by kernel_rfl) ?_
  simp only [List.take_succ_cons, List.take_zero, List.drop_succ_cons, List.drop_zero]
  change wpStill _ _ (World.drew _) _ _ _
  repeat (first | still_step | still_call (compare_still _ _ _))
  refine wpStill_nil ?_
  change wpList _ _ _ _ _ (World.drew _)
  go_wp2_with (go_at_call 91; refine (or_any (cmp3 h h') (cmp3 l l') _ _ (by go_simp) (by go_simp)).mono ?_; rintro e w' ⟨rfl, rfl⟩)
  go_ret
  refine ⟨?_, bl_alloc (bl_drew (bl_alloc (bl_alloc (Below.refl _ _) _) _)) _⟩
  show Ending.returned (.int .i64 (or2 (cmp3 h h') (cmp3 l l'))) = _
  congr 2
  have k1 := ka.h1; have k2 := ka.l1; have k3 := kb.h1; have k4 := kb.l1
  have j1 := ka.h0; have j2 := ka.l0; have j3 := kb.h0; have j4 := kb.l0
  have ea : (a.natAbs : Int) = h * 18446744073709551616 + l := by rcases ka.cases_ with ⟨_, _, _⟩ | ⟨_, _, _⟩ <;> omega
  have eb : (b.natAbs : Int) = h' * 18446744073709551616 + l' := by rcases kb.cases_ with ⟨_, _, _⟩ | ⟨_, _, _⟩ <;> omega
  rw [ea, eb]
  unfold or2 cmp3
  by_cases c1 : h < h'
  · rw [if_pos c1, if_neg (by omega), if_pos (by omega)]
  · by_cases c2 : h = h'
    · rw [if_neg c1, if_pos c2, if_pos rfl]
      by_cases c3 : l < l'
      · rw [if_pos c3, if_pos (by omega)]
      · by_cases c4 : l = l'
        · rw [if_neg c3, if_pos c4, if_neg (by omega), if_pos (by omega)]
        · rw [if_neg c3, if_neg c4, if_neg (by omega), if_neg (by omega)]
    · rw [if_neg c1, if_neg c2, if_neg (by omega), if_neg (by omega), if_neg (by omega)]

set_option maxHeartbeats 1000000 in
theorem short_any (n : Bool) (h l z : Int) (w : World) (k : IsW n h l z) :
    Calls Tryd.prog 65 #[.agg #[.bool n, .int .u64 h, .int .u64 l]] w fun e w' => e = .returned (.tuple #[.int .i64 (fitN z), .bool (fitB z)]) ∧ Below w.heap.size w w' := by
  have a0 := k.h0; have a1 := k.h1; have a2 := k.l0; have a3 := k.l1
  by_cases hh : h = 0
  · have hh1 : (h != 0) = false := by simp [hh]
    have HH := Lib.hid hh
    clear hh
    cases n
    · have kc : z = h * 18446744073709551616 + l := by rcases k.cases_ with ⟨x, _, _⟩ | ⟨_, _, y⟩; cases x; exact y
      have KC := Lib.hid kc
      clear kc
      by_cases hl : 9223372036854775807 < l
      · go_enter Tryd.func65, Tryd.ntmps65
        go_wp2
        go_ret2
        exact ⟨fit_no (by have := KC.out; have := HH.out; omega), bl_alloc (Below.refl _ _) _⟩
      · go_enter Tryd.func65, Tryd.ntmps65
        go_wp2
        go_ret2
        exact ⟨fit_yes (by have := KC.out; have := HH.out; omega) (by have := KC.out; have := HH.out; show l = z; omega), bl_alloc (Below.refl _ _) _⟩
    · have kc : z = -(h * 18446744073709551616 + l) := by rcases k.cases_ with ⟨_, _, y⟩ | ⟨x, _, _⟩; exact y; cases x
      have kz : z < 0 := by rcases k.cases_ with ⟨_, y, _⟩ | ⟨x, _, _⟩; exact y; cases x
      have KC := Lib.hid kc
      clear kc
      by_cases hl : 9223372036854775808 < l
      · go_enter Tryd.func65, Tryd.ntmps65
        go_wp2
        go_ret2
        exact ⟨fit_no (by have := KC.out; have := HH.out; omega), bl_alloc (Below.refl _ _) _⟩
      · go_enter Tryd.func65, Tryd.ntmps65
        go_wp2
        go_ret2
        exact ⟨fit_yes (by have := KC.out; have := HH.out; omega) (by have := KC.out; have := HH.out; rw [IntKind.wrap_u64]; unfold wrap64; omega), bl_alloc (Below.refl _ _) _⟩
  · have hh1 : (h != 0) = true := by simpa using hh
    have HH := Lib.hid hh
    clear hh
    go_enter Tryd.func65, Tryd.ntmps65
    go_wp2
    go_ret2
    exact ⟨fit_no (by have := HH.out; rcases k.cases_ with ⟨_, _, _⟩ | ⟨_, _, _⟩ <;> omega), bl_alloc (Below.refl _ _) _⟩

theorem mul_maskN (a : Nat) (ha : a < 18446744073709551616) : bits .and .u64 (a : Int) 4294967295 = ((a % 4294967296 : Nat) : Int) := by
  have h := bits_and_u64_nat a 4294967295 ha (by omega)
  have e : a &&& 4294967295 = a % 4294967296 := Nat.and_two_pow_sub_one_eq_mod a 32
  rw [e] at h
  exact h
theorem mul_divN (a : Nat) : (a : Int) / 4294967296 = ((a / 4294967296 : Nat) : Int) := by omega
theorem mul_mulN (a b : Nat) : (a : Int) * (b : Int) = ((a * b : Nat) : Int) := (Int.natCast_mul a b).symm
theorem mul_addN (a b : Nat) : (a : Int) + (b : Int) = ((a + b : Nat) : Int) := (Int.natCast_add a b).symm
theorem mul_wrapN (a : Nat) (ha : a < 18446744073709551616) : IntKind.u64.wrap (a : Int) = (a : Int) := by rw [IntKind.wrap_u64]; omega
theorem mul_wrapM (a : Nat) : IntKind.u64.wrap (a : Int) = ((a % 18446744073709551616 : Nat) : Int) := by rw [IntKind.wrap_u64]; omega
set_option maxHeartbeats 1000000 in
theorem mul64_nat (x y : Nat) (hx : x < 18446744073709551616) (hy : y < 18446744073709551616) (w : World) :
    Calls Tryd.prog 90 #[.int .u64 x, .int .u64 y] w fun e w' => e = .returned (.tuple #[.int .u64 ((x * y / 18446744073709551616 : Nat) : Int), .int .u64 ((x * y % 18446744073709551616 : Nat) : Int)]) ∧ w = w' := by
  obtain ⟨bd, bt, bw, hhi⟩ := Lib.mul64_hi x y hx hy
  have ba := Lib.half_mul_le (a := x / 4294967296) (b := y / 4294967296) (by omega) (by omega)
  have bb := Lib.half_mul_le (a := x / 4294967296) (b := y % 4294967296) (by omega) (by omega)
  have bc := Lib.half_mul_le (a := x % 4294967296) (b := y / 4294967296) (by omega) (by omega)
  have ba' : x / 4294967296 * (y / 4294967296) < 18446744073709551616 := by omega
  have bb' : x / 4294967296 * (y % 4294967296) < 18446744073709551616 := by omega
  have bc' : x % 4294967296 * (y / 4294967296) < 18446744073709551616 := by omega
  have bh1 : x / 4294967296 * (y / 4294967296) + (x / 4294967296 * (y % 4294967296) + x % 4294967296 * (y % 4294967296) / 4294967296) / 4294967296 < 18446744073709551616 := by omega
  have bh : x / 4294967296 * (y / 4294967296) + (x / 4294967296 * (y % 4294967296) + x % 4294967296 * (y % 4294967296) / 4294967296) / 4294967296 + ((x / 4294967296 * (y % 4294967296) + x % 4294967296 * (y % 4294967296) / 4294967296) % 4294967296 + x % 4294967296 * (y / 4294967296)) / 4294967296 < 18446744073709551616 := by omega
  go_enter Tryd.func90, Tryd.ntmps90
  go_wp2
  simp only [mul_maskN x hx, mul_maskN y hy, mul_divN, mul_mulN, mul_addN, mul_wrapN _ bd, mul_wrapN _ bb', mul_wrapN _ bt, mul_maskN _ bt, mul_wrapN _ bc', mul_wrapN _ bw, mul_wrapN _ ba', mul_wrapN _ bh1, mul_wrapN _ bh, mul_wrapM (x * y)]
  rw [hhi]
  go_ret2
  exact ⟨rfl, rfl⟩
theorem times_math (a b : Int) (P p1 p2 : Nat) (hP : a.natAbs * b.natAbs = P) (h1 : P / 18446744073709551616 = p1) (h2 : P % 18446744073709551616 = p2) (hQ : p1 < 18446744073709551616) (hR : p2 < 18446744073709551616)
    (n : Bool) (k : ((a < 0 ↔ b < 0) ∧ n = false) ∨ (¬ (a < 0 ↔ b < 0) ∧ n = decide (0 < (p1 : Int) + p2))) : IsW n p1 p2 (a * b) := by
  have e : ((a * b).natAbs : Nat) = P := by rw [Int.natAbs_mul]; exact hP
  rcases k with ⟨k, rfl⟩ | ⟨k, rfl⟩
  · have : 0 ≤ a * b := by
      by_cases ha : a < 0
      · exact Int.mul_nonneg_of_nonpos_of_nonpos (by omega) (by have := k.1 ha; omega)
      · exact Int.mul_nonneg (by omega) (by omega)
    exact .mk_ (by omega) (by omega) (by omega) (by omega) (.inr ⟨rfl, by omega, by omega⟩)
  · have : a * b ≤ 0 := by
      by_cases ha : a < 0
      · exact Int.mul_nonpos_of_nonpos_of_nonneg (by omega) (by omega)
      · exact Int.mul_nonpos_of_nonneg_of_nonpos (by omega) (by omega)
    refine .mk_ (by omega) (by omega) (by omega) (by omega) ?_
    by_cases hp : 0 < (p1 : Int) + p2
    · exact .inl ⟨decide_eq_true hp, by omega, by omega⟩
    · exact .inr ⟨decide_eq_false hp, by omega, by omega⟩
set_option maxHeartbeats 800000 in
theorem times_any (a b : Int) (w : World) (ha : InI a) (hb : InI b) :
    Calls Tryd.prog 72 #[.int .i64 a, .int .i64 b] w (RetW (a * b) w) := by
  have a1 := ha.1; have a2 := ha.2; have b1 := hb.1; have b2 := hb.2
  have hx : a.natAbs < 18446744073709551616 := by omega
  have hy : b.natAbs < 18446744073709551616 := by omega
  generalize hP : a.natAbs * b.natAbs = P
  have hQ : P / 18446744073709551616 < 18446744073709551616 := by
    have : P < 18446744073709551616 * 18446744073709551616 := by rw [← hP]; exact Nat.mul_lt_mul'' hx hy
    omega
  generalize hp1 : P / 18446744073709551616 = p1 at hQ
  have hR : P % 18446744073709551616 < 18446744073709551616 := by omega
  generalize hp2 : P % 18446744073709551616 = p2 at hR
  have hor := u64_or_zero (p1 : Int) (p2 : Int) (by omega) (by omega) (by omega) (by omega)
  have HC := fun w => mul64_nat a.natAbs b.natAbs hx hy w
  rw [hP, hp1, hp2] at HC
  have HCc := Lib.hid HC
  have HP := Lib.hid hP
  have H1 := Lib.hid hp1
  have H2 := Lib.hid hp2
  have HX := Lib.hid hx
  have HY := Lib.hid hy
  have HQ := Lib.hid hQ
  have HR := Lib.hid hR
  clear HC hP hx hy a1 a2 b1 b2 hp1 hp2 hQ hR
  by_cases h1 : a < 0
  · by_cases h2 : b < 0
    · go_enter Tryd.func72, Tryd.ntmps72
      go_wp2_with (first | (go_at_call 64; refine (size_any _ _ (by assumption)).mono ?_; rintro e w' ⟨rfl, rfl⟩) | (go_at_call 90; refine (HCc.out _).mono ?_; rintro e w' ⟨rfl, rfl⟩))
      refine bodyPost_ret (v := .agg #[.bool false, .int .u64 p1, .int .u64 p2]) (by simp [results, Tryd.results72, go_sem] <;> (intros; omega)) rfl ⟨_, _, _, rfl, ?_, bl_alloc (Below.refl _ _) _⟩
      exact times_math a b P p1 p2 HP.out H1.out H2.out HQ.out HR.out _ (.inl ⟨by omega, rfl⟩)
    · go_enter Tryd.func72, Tryd.ntmps72
      go_wp2_with (first | (go_at_call 64; refine (size_any _ _ (by assumption)).mono ?_; rintro e w' ⟨rfl, rfl⟩) | (go_at_call 90; refine (HCc.out _).mono ?_; rintro e w' ⟨rfl, rfl⟩))
      refine bodyPost_ret (v := .agg #[.bool (decide (0 < (p1 : Int) + p2)), .int .u64 p1, .int .u64 p2]) (by simp [results, Tryd.results72, go_sem] <;> (intros; omega)) rfl ⟨_, _, _, rfl, ?_, bl_alloc (Below.refl _ _) _⟩
      exact times_math a b P p1 p2 HP.out H1.out H2.out HQ.out HR.out _ (.inr ⟨by omega, rfl⟩)
  · by_cases h2 : b < 0
    · go_enter Tryd.func72, Tryd.ntmps72
      go_wp2_with (first | (go_at_call 64; refine (size_any _ _ (by assumption)).mono ?_; rintro e w' ⟨rfl, rfl⟩) | (go_at_call 90; refine (HCc.out _).mono ?_; rintro e w' ⟨rfl, rfl⟩))
      refine bodyPost_ret (v := .agg #[.bool (decide (0 < (p1 : Int) + p2)), .int .u64 p1, .int .u64 p2]) (by simp [results, Tryd.results72, go_sem] <;> (intros; omega)) rfl ⟨_, _, _, rfl, ?_, bl_alloc (Below.refl _ _) _⟩
      exact times_math a b P p1 p2 HP.out H1.out H2.out HQ.out HR.out _ (.inr ⟨by omega, rfl⟩)
    · go_enter Tryd.func72, Tryd.ntmps72
      go_wp2_with (first | (go_at_call 64; refine (size_any _ _ (by assumption)).mono ?_; rintro e w' ⟨rfl, rfl⟩) | (go_at_call 90; refine (HCc.out _).mono ?_; rintro e w' ⟨rfl, rfl⟩))
      refine bodyPost_ret (v := .agg #[.bool false, .int .u64 p1, .int .u64 p2]) (by simp [results, Tryd.results72, go_sem] <;> (intros; omega)) rfl ⟨_, _, _, rfl, ?_, bl_alloc (Below.refl _ _) _⟩
      exact times_math a b P p1 p2 HP.out H1.out H2.out HQ.out HR.out _ (.inl ⟨by omega, rfl⟩)
end Go.Proofs.YtkdklmkcanjjfaaDoor
