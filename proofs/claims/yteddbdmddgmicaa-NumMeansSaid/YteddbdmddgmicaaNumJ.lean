/- The walks of num, part J: FloorSum. -/
import Derived.Test.YteddbdmddgmicaaNumI
namespace Go.Proofs.Yteddbdmddgmicaa
open Go.RowKit
set_option linter.unusedVariables false
set_option linter.unusedSimpArgs false

theorem div64_int (h l y : Int) (h0 : 0 ≤ h) (hhy : h < y) (l0 : 0 ≤ l) (hl : l < 18446744073709551616) (hy : y < 18446744073709551616) (w : World) :
    Calls Try.prog 43 #[.int .u64 h, .int .u64 l, .int .u64 y] w fun e w' => e = .returned (.tuple #[.int .u64 ((h * 18446744073709551616 + l) / y), .int .u64 ((h * 18446744073709551616 + l) % y)]) ∧ Below w.heap.size w w' := by
  obtain ⟨a, rfl⟩ := Int.eq_ofNat_of_zero_le h0
  obtain ⟨b, rfl⟩ := Int.eq_ofNat_of_zero_le l0
  obtain ⟨c, rfl⟩ := Int.eq_ofNat_of_zero_le (show 0 ≤ y by omega)
  exact div64_any a b c (by omega) (by omega) (by omega) w

/-- The document's answer: a sum by d, rounded down. -/
def meanN (d S : Int) : Int := if 0 < d then fitN (S / d) else 0
def meanB (d S : Int) : Bool := decide (0 < d) && fitB (S / d)
/-- The quotient of a sum by its size. -/
theorem fs_math {n : Bool} {h l S d : Int} (k : IsW n h l S) (hd : 0 < d) : (n = true → (h * 18446744073709551616 + l) % d = 0 → S / d = -((h * 18446744073709551616 + l) / d)) ∧ (n = true → 0 < (h * 18446744073709551616 + l) % d → S / d = -((h * 18446744073709551616 + l) / d) + -1) ∧ (n = false → S / d = (h * 18446744073709551616 + l) / d) := by
  have hm := k.mag
  generalize h * 18446744073709551616 + l = X at *
  have e := Int.mul_ediv_add_emod X d
  have e1 := Int.emod_nonneg X (show d ≠ 0 by omega)
  have e2 := Int.emod_lt_of_pos X hd
  refine ⟨?_, ?_, ?_⟩
  · rintro rfl hz
    have hS : S = -X := by simpa using hm
    rw [hS]
    refine Int.ediv_eq_of_eq_mul_right (by omega) ?_
    rw [Int.mul_neg]; omega
  · rintro rfl hz
    have hS : S = -X := by simpa using hm
    have hS2 : S = (d - X % d) + d * (-(X / d) + -1) := by
      rw [hS, Int.mul_add, Int.mul_neg, Int.mul_neg, Int.mul_one]; omega
    rw [hS2, Int.add_mul_ediv_left _ _ (by omega), Int.ediv_eq_zero_of_lt (by omega) (by omega)]
    omega
  · rintro rfl
    have hS : S = X := by simpa using hm
    rw [hS]
theorem fs_far {n : Bool} {h l S d : Int} (k : IsW n h l S) (hd : 0 < d) (hge : d ≤ h) : fitN (S / d) = 0 ∧ fitB (S / d) = false := by
  have hx : ¬ (-9223372036854775808 ≤ S / d ∧ S / d ≤ 9223372036854775807) := by
    have hl := k.l0
    rcases k.cases_ with ⟨_, _, e⟩ | ⟨_, _, e⟩
    · have : S / d < -9223372036854775808 := Int.ediv_lt_of_lt_mul hd (by omega)
      omega
    · have : 9223372036854775808 ≤ S / d := Int.le_ediv_of_mul_le hd (by omega)
      omega
  exact ⟨if_neg hx, decide_eq_false hx⟩

theorem FloorSum_no (d : Int) (A : Option Addr) (c : Nat) (l : List Int) (w : World) (hd : d ≤ 0) (hl : l.length ≤ 1000000) (hw : ∀ x ∈ l, InI x)
    (hr : 0 < l.length → ∃ ad, A = some ad ∧ ∀ j u, l[j]? = some u → w.cell? (ad.add j) = some (.int .i64 u)) :
    Calls Try.prog 29 #[.int .i64 d, .slice A l.length c] w fun e w' => e = .returned (.tuple #[.int .i64 0, .bool false]) ∧ Below w.heap.size w w' := by
  have HT := Lib.hid (total_any A c l w hl hw hr)
  clear hr hw
  go_enter Try.func29, Try.ntmps29
  go_wp2_with fail
  refine HT.out.mono ?_; rintro e w1 ⟨n1, h1, l1, rfl, k1, hb1⟩
  go_wp2_with fail
  go_ret2
  exact ⟨rfl, bl_alloc hb1 _⟩
set_option maxHeartbeats 3200000 in
theorem FloorSum_yes (d : Int) (A : Option Addr) (c : Nat) (l : List Int) (w : World) (hd : 0 < d) (id : InI d) (hl : l.length ≤ 1000000) (hw : ∀ x ∈ l, InI x)
    (hr : 0 < l.length → ∃ ad, A = some ad ∧ ∀ j u, l[j]? = some u → w.cell? (ad.add j) = some (.int .i64 u)) :
    Calls Try.prog 29 #[.int .i64 d, .slice A l.length c] w fun e w' => e = .returned (.tuple #[.int .i64 (fitN (l.sum / d)), .bool (fitB (l.sum / d))]) ∧ Below w.heap.size w w' := by
  have HT := Lib.hid (total_any A c l w hl hw hr)
  clear hr hw
  have hdl : d ≤ 9223372036854775807 := id.2
  generalize l.sum = S at HT ⊢
  go_enter Try.func29, Try.ntmps29
  go_wp2_with fail
  refine HT.out.mono ?_; rintro e w1 ⟨n1, h1, l1, rfl, k1, hb1⟩
  have a0 := k1.h0
  have a1 := k1.h1
  have a2 := k1.l0
  have a3 := k1.l1
  by_cases hge : d ≤ h1
  · have Z := Lib.hid (fs_far k1 hd hge)
    go_wp2_with fail
    go_ret2
    refine ⟨?_, bl_alloc hb1 _⟩
    rw [Z.out.1, Z.out.2]; rfl
  · have HV := Lib.hid (fun w => div64_int h1 l1 d k1.h0 (by omega) k1.l0 k1.l1 (by omega) w)
    obtain ⟨m1, m2, m3⟩ := fs_math k1 hd
    have hq0 : 0 ≤ (h1 * 18446744073709551616 + l1) / d := Int.ediv_nonneg (by omega) (by omega)
    have hq1 : (h1 * 18446744073709551616 + l1) / d < 18446744073709551616 := Int.ediv_lt_of_lt_mul hd (by
      have : (h1 + 1) * 18446744073709551616 ≤ d * 18446744073709551616 := by omega
      omega)
    have hz0 := Int.emod_nonneg (h1 * 18446744073709551616 + l1) (show d ≠ 0 by omega)
    generalize (h1 * 18446744073709551616 + l1) / d = q at *
    generalize (h1 * 18446744073709551616 + l1) % d = z at *
    have K1 := Lib.hid k1
    have M1 := Lib.hid m1
    have M2 := Lib.hid m2
    have M3 := Lib.hid m3
    have HN := Lib.hid (fun w => normal_any n1 0 q (if n1 = true then -(0 * 18446744073709551616 + q) else 0 * 18446744073709551616 + q) w (by omega) (by omega) hq0 hq1 rfl)
    clear k1 m1 m2 m3
    go_wp2_with fail
    refine (HV.out _).mono ?_; rintro e w2 ⟨rfl, hb2⟩
    have Bs : Blk w2 w1.heap.size 48 #[.bool n1, .int .u64 h1, .int .u64 l1] := (Blk.new _ _ _).below hb2
    have bl2 := bl_step (bl_alloc hb1 _) hb2
    have s_z : w1.heap.size < w2.heap.size := Bs.lt
    have s_c0 : w2.cell? ⟨w1.heap.size, 0, none⟩ = some (.bool n1) := (Bs.cell 0).trans rfl
    have s_f0 := Bs.frozen 0
    have s_c1 : w2.cell? ⟨w1.heap.size, 1, none⟩ = some (.int .u64 h1) := (Bs.cell 1).trans rfl
    have s_f1 := Bs.frozen 1
    have s_c2 : w2.cell? ⟨w1.heap.size, 2, none⟩ = some (.int .u64 l1) := (Bs.cell 2).trans rfl
    have s_f2 := Bs.frozen 2
    go_wp2_with fail
    refine (HN.out _).mono ?_; rintro e w3 ⟨n3, h3, l3, rfl, k3, hb3⟩
    have Bt := Bs.below hb3
    clear s_z s_c0 s_f0 s_c1 s_f1 s_c2 s_f2
    have bl3 := bl_step bl2 hb3
    clear Bs
    have t_z : w1.heap.size < w3.heap.size := Bt.lt
    have t_c0 : w3.cell? ⟨w1.heap.size, 0, none⟩ = some (.bool n1) := (Bt.cell 0).trans rfl
    have t_f0 := Bt.frozen 0
    have t_c1 : w3.cell? ⟨w1.heap.size, 1, none⟩ = some (.int .u64 h1) := (Bt.cell 1).trans rfl
    have t_f1 := Bt.frozen 1
    have t_c2 : w3.cell? ⟨w1.heap.size, 2, none⟩ = some (.int .u64 l1) := (Bt.cell 2).trans rfl
    have t_f2 := Bt.frozen 2
    have i1 : InI (-1) := ⟨by omega, by omega⟩
    cases n1
    · have k4 : IsW n3 h3 l3 q := by simpa using k3
      have HE : Hid (S / d = q) := M3.out rfl
      go_wp2_with fail
      refine (short_any _ _ _ _ _ k4).mono ?_; rintro e w4 ⟨rfl, hb4⟩
      go_wp2
      go_ret2
      refine ⟨?_, bl_step (bl_alloc bl3 _) hb4⟩
      rw [HE.out]; rfl
    · have k4 : IsW n3 h3 l3 (-q) := by simpa using k3
      by_cases hz : z = 0
      · have HE : Hid (S / d = -q) := M1.out rfl hz
        subst hz
        go_wp2_with fail
        refine (short_any _ _ _ _ _ k4).mono ?_; rintro e w4 ⟨rfl, hb4⟩
        go_wp2
        go_ret2
        refine ⟨?_, bl_step (bl_alloc bl3 _) hb4⟩
        rw [HE.out]; rfl
      · have hz1 : 0 < z := by omega
        have HE : Hid (S / d = -q + -1) := M2.out rfl hz1
        have HA := Lib.hid (fun n m h l h' l' w ka kb => add_any n m h l h' l' (-q) (-1) w ka kb (by omega) (by omega))
        clear k3
        go_wp2_with fail
        go_region_with (first | (go_at_call 36; refine (of_any _ _ i1).mono ?_; rintro e w4 ⟨n4, h4, l4, rfl, k5, hb4⟩; obtain ⟨hc4, hf4⟩ := bcell hb4) | (go_at_call 35; refine (HA.out _ _ _ _ _ _ _ k4 k5).mono ?_; rintro e w5 ⟨n5, h5, l5, rfl, k6, hb5⟩; clear hc4 hf4; have hB5 := bl_step hb4 hb5; obtain ⟨hc5, hf5⟩ := bcell hB5))
        all_goals
          go_wp2_with fail
          refine (short_any _ _ _ _ _ k6).mono ?_; rintro e w6 ⟨rfl, hb6⟩
          go_wp2
          go_ret2
          refine ⟨by rw [HE.out]; rfl, ?_⟩
          have hw3 : w.heap.size ≤ w3.heap.size := bl3.size
          have hB3' := bl_step (bl_drew (bl_alloc bl3 _)) hB5
          exact bl_step (bl_set (bl_set (bl_set hB3' hw3 _) hw3 _) hw3 _) hb6
theorem FloorSum_any (d : Int) (A : Option Addr) (c : Nat) (l : List Int) (w : World) (id : InI d) (hl : l.length ≤ 1000000) (hw : ∀ x ∈ l, InI x)
    (hr : 0 < l.length → ∃ ad, A = some ad ∧ ∀ j u, l[j]? = some u → w.cell? (ad.add j) = some (.int .i64 u)) :
    Calls Try.prog 29 #[.int .i64 d, .slice A l.length c] w fun e w' => e = .returned (.tuple #[.int .i64 (meanN d l.sum), .bool (meanB d l.sum)]) ∧ Below w.heap.size w w' := by
  by_cases hd : 0 < d
  · have h := FloorSum_yes d A c l w hd id hl hw hr
    rw [meanN, meanB, if_pos hd, decide_eq_true hd, Bool.true_and]
    exact h
  · have h := FloorSum_no d A c l w (by omega) hl hw hr
    rw [meanN, meanB, if_neg hd, decide_eq_false hd, Bool.false_and]
    exact h
end Go.Proofs.Yteddbdmddgmicaa
