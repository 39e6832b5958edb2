/- The walks of the reference for layer 1, part I: Gcd. -/
import Derived.Test.YtkdklmkcanjjfaaDoorBCross
namespace Go.Proofs.YtkdklmkcanjjfaaDoor
open Go.RowKit
set_option linter.unusedVariables false
set_option linter.unusedSimpArgs false
set_option maxRecDepth 100000

theorem BigV.zero_len {w : World} {n : Bool} {A : Option Addr} {m c : Nat} {z : Int} (h : BigV w n A m c z) : m = 0 ↔ z = 0 := by
  obtain ⟨ds, h1, h2, _, h4⟩ := h.out
  have := dval_zero ds h2
  rw [h1.len, List.length_eq_zero_iff, ← this, h4]
  omega
theorem BigV.abs_ {w : World} {n : Bool} {A : Option Addr} {m c : Nat} {z : Int} (h : BigV w n A m c z) : BigV w false A m c (z.natAbs : Int) := by
  obtain ⟨ds, h1, h2, _, h4⟩ := h.out
  exact ⟨ds, ⟨h1.len, h1.cap, h1.capm, h1.digs, h1.rd⟩, h2, by simp, by rw [h4]; simp⟩
theorem BigV.lens {w : World} {n : Bool} {A : Option Addr} {m c : Nat} {z : Int} (h : BigV w n A m c z) : m ≤ 9223372036854775807 := by
  obtain ⟨ds, h1, _⟩ := h.out
  have := h1.cap; have := h1.capm; omega

set_option maxHeartbeats 6400000 in
theorem BGcd_zero (a : Int) (w : World) (ia : InI a) (ib : InI 0) :
    Calls Tryd.prog 40 #[.int .i64 a, .int .i64 0] w fun e w' => e = .returned (.tuple #[.int .i64 (fitN (a.natAbs : Nat)), .bool (fitB (a.natAbs : Nat))]) ∧ Below w.heap.size w w' := by
  go_enter Tryd.func40, Tryd.ntmps40
  go_wp2_with fail
  refine (Of_any _ _ ia).mono ?_; rintro e v1 ⟨n1, A1, m1, c1, rfl, k1, hb1⟩
  have st1 := bl_step (Below.refl _ _) hb1
  have bl1 := st1
  go_wp2_with fail
  refine (Of_any _ _ ib).mono ?_; rintro e v2 ⟨n2, A2, m2, c2, rfl, k2, hb2⟩
  have st2 := bl_step (bl_alloc (Below.refl _ _) _) hb2
  have bl2 := bl_step bl1 st2
  have Bx_2 : Blk v2 (v1.heap.size) 59 #[.bool n1, .slice A1 m1 c1] := (Blk.new _ _ _).below hb2
  have x_2_z : v1.heap.size < v2.heap.size := Bx_2.lt
  have x_2_c0 : v2.cell? ⟨v1.heap.size, 0, none⟩ = some (.bool n1) := (Bx_2.cell 0).trans rfl
  have x_2_f0 := Bx_2.frozen 0
  have x_2_c1 : v2.cell? ⟨v1.heap.size, 1, none⟩ = some (.slice A1 m1 c1) := (Bx_2.cell 1).trans rfl
  have x_2_f1 := Bx_2.frozen 1
  have x_2 := k1.below st2
  obtain rfl := (k2.zero_len).2 rfl
  have q3 := (x_2.abs_.set_ (p := ⟨v1.heap.size, 0, none⟩) Bx_2 (by decide) (.bool false)).below (bl_alloc (Below.refl _ _) (Obj.cells #[.bool n2, .slice A2 0 c2] 59))
  go_wp2_with fail
  refine (Short_any _ _ _ _ _ _ q3).mono ?_; rintro e v3 ⟨rfl, hb3⟩
  have bl3 := bl_step (bl_alloc (bl_set bl2 (p := ⟨v1.heap.size, 0, none⟩) bl1.size (.bool false)) _) hb3
  go_wp2
  go_ret2
  exact ⟨rfl, bl3⟩

set_option maxHeartbeats 6400000 in
theorem BGcd_one  (w : World) (ia : InI (-9223372036854775808)) (ib : InI (-1))  :
    Calls Tryd.prog 40 #[.int .i64 (-9223372036854775808), .int .i64 (-1)] w fun e w' => e = .returned (.tuple #[.int .i64 1, .bool true]) ∧ Below w.heap.size w w' := by
  have h0 : (-1) ≠ 0 := by omega
  go_enter Tryd.func40, Tryd.ntmps40
  go_wp2_with fail
  refine (Of_any _ _ ia).mono ?_; rintro e v1 ⟨n1, A1, m1, c1, rfl, k1, hb1⟩
  have st1 := bl_step (Below.refl _ _) hb1
  have bl1 := st1
  go_wp2_with fail
  refine (Of_any _ _ ib).mono ?_; rintro e v2 ⟨n2, A2, m2, c2, rfl, k2, hb2⟩
  have st2 := bl_step (bl_alloc (Below.refl _ _) _) hb2
  have bl2 := bl_step bl1 st2
  have Bx_2 : Blk v2 (v1.heap.size) 59 #[.bool n1, .slice A1 m1 c1] := (Blk.new _ _ _).below hb2
  have x_2_z : v1.heap.size < v2.heap.size := Bx_2.lt
  have x_2_c0 : v2.cell? ⟨v1.heap.size, 0, none⟩ = some (.bool n1) := (Bx_2.cell 0).trans rfl
  have x_2_f0 := Bx_2.frozen 0
  have x_2_c1 : v2.cell? ⟨v1.heap.size, 1, none⟩ = some (.slice A1 m1 c1) := (Bx_2.cell 1).trans rfl
  have x_2_f1 := Bx_2.frozen 1
  have x_2 := k1.below st2
  have hm2 : 0 < m2 := by
    have := k2.zero_len
    omega
  have hm3 := k2.lens
  go_wp2
  go_ret2
  exact ⟨rfl, bl_alloc bl2 _⟩

set_option maxHeartbeats 6400000 in
theorem BGcd_rec1 (a b : Int) (w : World) (ia : InI a) (ib : InI b) (r : Int) (t : Bool) (HI : Hid (∀ w, Calls Tryd.prog 40 #[.int .i64 b, .int .i64 (a.tmod b)] w fun e w' => e = .returned (.tuple #[.int .i64 r, .bool t]) ∧ Below w.heap.size w w')) (hn : b ≠ 0) (hx : (a == -9223372036854775808) = false) :
    Calls Tryd.prog 40 #[.int .i64 a, .int .i64 b] w fun e w' => e = .returned (.tuple #[.int .i64 r, .bool t]) ∧ Below w.heap.size w w' := by
  have h0 : b ≠ 0 := by omega
  go_enter Tryd.func40, Tryd.ntmps40
  go_wp2_with fail
  refine (Of_any _ _ ia).mono ?_; rintro e v1 ⟨n1, A1, m1, c1, rfl, k1, hb1⟩
  have st1 := bl_step (Below.refl _ _) hb1
  have bl1 := st1
  go_wp2_with fail
  refine (Of_any _ _ ib).mono ?_; rintro e v2 ⟨n2, A2, m2, c2, rfl, k2, hb2⟩
  have st2 := bl_step (bl_alloc (Below.refl _ _) _) hb2
  have bl2 := bl_step bl1 st2
  have Bx_2 : Blk v2 (v1.heap.size) 59 #[.bool n1, .slice A1 m1 c1] := (Blk.new _ _ _).below hb2
  have x_2_z : v1.heap.size < v2.heap.size := Bx_2.lt
  have x_2_c0 : v2.cell? ⟨v1.heap.size, 0, none⟩ = some (.bool n1) := (Bx_2.cell 0).trans rfl
  have x_2_f0 := Bx_2.frozen 0
  have x_2_c1 : v2.cell? ⟨v1.heap.size, 1, none⟩ = some (.slice A1 m1 c1) := (Bx_2.cell 1).trans rfl
  have x_2_f1 := Bx_2.frozen 1
  have x_2 := k1.below st2
  have hm2 : 0 < m2 := by
    have := k2.zero_len
    omega
  have hm3 := k2.lens
  go_wp2_with fail
  refine (HI.out _).mono ?_; rintro e v3 ⟨rfl, hb3⟩
  have bl3 := bl_step bl2 (bl_step (bl_alloc (Below.refl _ _) _) hb3)
  go_wp2
  go_ret2
  exact ⟨rfl, bl3⟩

set_option maxHeartbeats 6400000 in
theorem BGcd_rec2 (a b : Int) (w : World) (ia : InI a) (ib : InI b) (r : Int) (t : Bool) (HI : Hid (∀ w, Calls Tryd.prog 40 #[.int .i64 b, .int .i64 (a.tmod b)] w fun e w' => e = .returned (.tuple #[.int .i64 r, .bool t]) ∧ Below w.heap.size w w')) (hn : b ≠ 0) (hy : (a == -9223372036854775808) = true) (hx : (b == -1) = false) :
    Calls Tryd.prog 40 #[.int .i64 a, .int .i64 b] w fun e w' => e = .returned (.tuple #[.int .i64 r, .bool t]) ∧ Below w.heap.size w w' := by
  have h0 : b ≠ 0 := by omega
  go_enter Tryd.func40, Tryd.ntmps40
  go_wp2_with fail
  refine (Of_any _ _ ia).mono ?_; rintro e v1 ⟨n1, A1, m1, c1, rfl, k1, hb1⟩
  have st1 := bl_step (Below.refl _ _) hb1
  have bl1 := st1
  go_wp2_with fail
  refine (Of_any _ _ ib).mono ?_; rintro e v2 ⟨n2, A2, m2, c2, rfl, k2, hb2⟩
  have st2 := bl_step (bl_alloc (Below.refl _ _) _) hb2
  have bl2 := bl_step bl1 st2
  have Bx_2 : Blk v2 (v1.heap.size) 59 #[.bool n1, .slice A1 m1 c1] := (Blk.new _ _ _).below hb2
  have x_2_z : v1.heap.size < v2.heap.size := Bx_2.lt
  have x_2_c0 : v2.cell? ⟨v1.heap.size, 0, none⟩ = some (.bool n1) := (Bx_2.cell 0).trans rfl
  have x_2_f0 := Bx_2.frozen 0
  have x_2_c1 : v2.cell? ⟨v1.heap.size, 1, none⟩ = some (.slice A1 m1 c1) := (Bx_2.cell 1).trans rfl
  have x_2_f1 := Bx_2.frozen 1
  have x_2 := k1.below st2
  have hm2 : 0 < m2 := by
    have := k2.zero_len
    omega
  have hm3 := k2.lens
  go_wp2_with fail
  refine (HI.out _).mono ?_; rintro e v3 ⟨rfl, hb3⟩
  have bl3 := bl_step bl2 (bl_step (bl_alloc (Below.refl _ _) _) hb3)
  go_wp2
  go_ret2
  exact ⟨rfl, bl3⟩

theorem BGcd_le : ∀ (k : Nat) (a b : Int) (w : World), b.natAbs ≤ k → InI a → InI b →
    Calls Tryd.prog 40 #[.int .i64 a, .int .i64 b] w fun e w' => e = .returned (.tuple #[.int .i64 (fitN (Nat.gcd a.natAbs b.natAbs : Nat)), .bool (fitB (Nat.gcd a.natAbs b.natAbs : Nat))]) ∧ Below w.heap.size w w'
  | 0, a, b, w, hk, ia, ib => by
    obtain rfl : b = 0 := by omega
    have := BGcd_zero a w ia ib
    rwa [show Nat.gcd a.natAbs (0 : Int).natAbs = a.natAbs by simp]
  | k + 1, a, b, w, hk, ia, ib => by
    by_cases h0 : b = 0
    · subst h0
      have := BGcd_zero a w ia ib
      rwa [show Nat.gcd a.natAbs (0 : Int).natAbs = a.natAbs by simp]
    · have hlt : (a.tmod b).natAbs < b.natAbs := by
        rw [Int.natAbs_tmod]
        exact Nat.mod_lt _ (by omega)
      have ir : InI (a.tmod b) := by
        have := ib.1; have := ib.2
        exact ⟨by omega, by omega⟩
      have hg : Nat.gcd b.natAbs (a.tmod b).natAbs = Nat.gcd a.natAbs b.natAbs := by
        rw [Int.natAbs_tmod, Nat.gcd_comm, ← Nat.gcd_rec, Nat.gcd_comm]
      have IH := fun w => BGcd_le k b (a.tmod b) w (by omega) ib ir
      rw [hg] at IH
      by_cases ha : a = -9223372036854775808
      · by_cases hb : b = -1
        · subst hb
          subst ha
          have h1 := BGcd_one w ia ib
          have e1 : ((Nat.gcd (-9223372036854775808 : Int).natAbs (-1 : Int).natAbs : Nat) : Int) = 1 := by
            have : Nat.gcd (-9223372036854775808 : Int).natAbs (-1 : Int).natAbs = 1 := Nat.gcd_one_right _
            rw [this]; rfl
          rw [e1, show fitN 1 = 1 from rfl, show fitB 1 = true from rfl]
          exact h1
        · exact BGcd_rec2 a b w ia ib _ _ (Lib.hid IH) h0 (by simpa using ha) (by simpa using hb)
      · exact BGcd_rec1 a b w ia ib _ _ (Lib.hid IH) h0 (by simpa using ha)
theorem BGcd_any (a b : Int) (w : World) (ia : InI a) (ib : InI b) :
    Calls Tryd.prog 40 #[.int .i64 a, .int .i64 b] w fun e w' => e = .returned (.tuple #[.int .i64 (fitN (Nat.gcd a.natAbs b.natAbs : Nat)), .bool (fitB (Nat.gcd a.natAbs b.natAbs : Nat))]) ∧ Below w.heap.size w w' := BGcd_le _ a b w (Nat.le_refl _) ia ib
end Go.Proofs.YtkdklmkcanjjfaaDoor
