/- The walks of package num, part F: sums, divisors, crosses. -/
import Derived.Test.YtkdklmkcanjjfaaDoorNumE
import Derived.Deep.LoopGhost
namespace Go.Proofs.YtkdklmkcanjjfaaDoor
open Go.RowKit
set_option linter.unusedVariables false
set_option linter.unusedSimpArgs false
set_option maxRecDepth 100000

theorem gcd_step (x y : Nat) (_hy : 0 < y) : Nat.gcd y (x % y) = Nat.gcd x y := by rw [Nat.gcd_comm x y, Nat.gcd_rec y x, Nat.gcd_comm]
/-- How the rounds of a divisor stand. -/
structure GcdIn (g : Nat) (x y : Int) : Prop where
  x0 : 0 ≤ x
  x1 : x ≤ 9223372036854775808
  y0 : 0 ≤ y
  y1 : y ≤ 9223372036854775808
  g : Nat.gcd x.toNat y.toNat = g
set_option maxHeartbeats 800000 in
theorem Gcd_any (a b : Int) (w : World) (ha : InI a) (hb : InI b) :
    Calls Tryd.prog 37 #[.int .i64 a, .int .i64 b] w fun e w' => e = .returned (.tuple #[.int .i64 (fitN (Nat.gcd a.natAbs b.natAbs : Nat)), .bool (fitB (Nat.gcd a.natAbs b.natAbs : Nat))]) ∧ Below w.heap.size w w' := by
  have hg0 : GcdIn (Nat.gcd a.natAbs b.natAbs) (mag a) (mag b) := ⟨by unfold mag; omega, by unfold mag; have := ha.1; have := ha.2; omega, by unfold mag; omega, by unfold mag; have := hb.1; have := hb.2; omega, by unfold mag; simp⟩
  generalize Nat.gcd a.natAbs b.natAbs = g at hg0 ⊢
  go_enter Tryd.func37, Tryd.ntmps37
  go_wp2_with fail
  refine (size_mag a _ ha).mono ?_; rintro e w1 ⟨rfl, hw1⟩; subst w1
  go_wp2_with fail
  refine (size_mag b _ hb).mono ?_; rintro e w1 ⟨rfl, hw1⟩; subst w1
  go_wp2_with fail
  go_loopw [6, 7] (fun vx vy wr => ∃ x y : Int, vx = .int .u64 x ∧ vy = .int .u64 y ∧ GcdIn g x y ∧ Below w.heap.size w wr) (fun _ vy _ => (intOf vy).toNat)
  case atStart => exact ⟨_, _, rfl, rfl, hg0, Below.refl _ _⟩
  case round =>
    obtain ⟨x, y, rfl, rfl, hG, be⟩ := hrel
    have x0 := hG.x0
    have y0 := hG.y0
    have x1 := hG.x1
    by_cases hy : y = 0
    · have hy1 : (y != 0) = false := by simp [hy]
      have hgx : (x : Int) = (g : Int) := by have := hG.g; rw [hy] at this; simp at this; omega
      have HG := Lib.hid hgx
      have HS := Lib.hid (fun w => short_any false 0 x x w (.mk_ (by omega) (by omega) (by omega) (by omega) (.inr ⟨rfl, by omega, by omega⟩)))
      clear hy hgx
      go_wp2_with fail
      refine (HS.out _).mono ?_; rintro e w2 ⟨rfl, hb2⟩
      go_wp2
      go_ret2
      exact ⟨by rw [← HG.out]; rfl, bl_step be hb2⟩
    · have hy1 : (y != 0) = true := by simpa using hy
      have hy2 : 1 ≤ y := by omega
      have hy3 := hG.y1
      have hm0 : 0 ≤ x % y := Int.emod_nonneg x hy
      have hm1 : x % y < y := Int.emod_lt_of_pos x (by omega)
      have hG2 : GcdIn g y (x % y) := ⟨y0, hy3, hm0, by omega, by
        rw [← hG.g]
        have e : (x % y).toNat = x.toNat % y.toNat := by
          obtain ⟨X, rfl⟩ := Int.eq_ofNat_of_zero_le x0
          obtain ⟨Y, rfl⟩ := Int.eq_ofNat_of_zero_le y0
          rw [← Int.natCast_emod]; rfl
        rw [e, Nat.gcd_comm x.toNat y.toNat, Nat.gcd_rec y.toNat x.toNat, Nat.gcd_comm]⟩
      clear hy
      go_wp2_with fail
      go_quiet (fail)
      go_wp2
      go_roundw
      case rel => exact ⟨_, _, rfl, rfl, hG2, bl_drewN be _⟩
      case measure => simp only [intOf]; omega
set_option maxHeartbeats 1600000 in
theorem Cross_any (a b c d : Int) (w : World) (ha : InI a) (hb : InI b) (hc : InI c) (hd : InI d) :
    Calls Tryd.prog 50 #[.int .i64 a, .int .i64 b, .int .i64 c, .int .i64 d] w fun e w' => e = .returned (.int .i64 (cmp3 (a * d) (c * b))) ∧ Below w.heap.size w w' := by
  have HT1 := fun w => times_any a d w ha hd
  have HT2 := fun w => times_any c b w hc hb
  generalize a * d = x at HT1 ⊢
  generalize c * b = y at HT2 ⊢
  have H1 := Lib.hid HT1
  have H2 := Lib.hid HT2
  clear HT1 HT2
  go_enter Tryd.func50, Tryd.ntmps50
  go_wp2_with fail
  refine (H1.out _).mono ?_; rintro e w1 ⟨n1, h1, l1, rfl, k1, hb1⟩
  go_wp2_with fail
  refine (H2.out _).mono ?_; rintro e w2 ⟨n2, h2, l2, rfl, k2, hb2⟩
  cases n1 <;> cases n2
  · go_wp2_with fail
    refine (distance_any _ _ _ _ _ _ x y _ k1 k2).mono ?_; rintro e w3 ⟨rfl, hb3⟩
    go_wp2
    go_ret
    refine ⟨?_, bl_step (bl_alloc (bl_alloc (bl_step hb1 hb2) _) _) hb3⟩
    show Ending.returned (.int .i64 (cmp3 x.natAbs y.natAbs)) = _
    rcases k1.cases_ with ⟨e1, _, _⟩ | ⟨_, p1, _⟩
    · cases e1
    · rcases k2.cases_ with ⟨e2, _, _⟩ | ⟨_, p2, _⟩
      · cases e2
      · rw [show (x.natAbs : Int) = x by omega, show (y.natAbs : Int) = y by omega]
  · go_wp2_with fail
    go_ret
    refine ⟨?_, bl_alloc (bl_alloc (bl_step hb1 hb2) _) _⟩
    show Ending.returned (.int .i64 1) = _
    rcases k1.cases_ with ⟨e1, _, _⟩ | ⟨_, p1, _⟩
    · cases e1
    · rcases k2.cases_ with ⟨_, p2, _⟩ | ⟨e2, _, _⟩
      · rw [cmp3, if_neg (by omega), if_neg (by omega)]
      · cases e2
  · go_wp2_with fail
    go_ret
    refine ⟨?_, bl_alloc (bl_alloc (bl_step hb1 hb2) _) _⟩
    show Ending.returned (.int .i64 (-1)) = _
    rcases k1.cases_ with ⟨_, p1, _⟩ | ⟨e1, _, _⟩
    · rcases k2.cases_ with ⟨e2, _, _⟩ | ⟨_, p2, _⟩
      · cases e2
      · rw [cmp3, if_pos (by omega)]
    · cases e1
  · go_wp2_with fail
    refine (distance_any _ _ _ _ _ _ y x _ k2 k1).mono ?_; rintro e w3 ⟨rfl, hb3⟩
    go_wp2
    go_ret
    refine ⟨?_, bl_step (bl_alloc (bl_alloc (bl_step hb1 hb2) _) _) hb3⟩
    show Ending.returned (.int .i64 (cmp3 y.natAbs x.natAbs)) = _
    rcases k1.cases_ with ⟨_, p1, _⟩ | ⟨e1, _, _⟩
    · rcases k2.cases_ with ⟨_, p2, _⟩ | ⟨e2, _, _⟩
      · rw [show (x.natAbs : Int) = -x by omega, show (y.natAbs : Int) = -y by omega]
        congr 2
        unfold cmp3
        by_cases c1 : x < y
        · rw [if_pos c1, if_pos (by omega)]
        · by_cases c2 : x = y
          · rw [if_neg c1, if_pos c2, if_neg (by omega), if_pos (by omega)]
          · rw [if_neg c1, if_neg c2, if_neg (by omega), if_neg (by omega)]
      · cases e2
    · cases e1
end Go.Proofs.YtkdklmkcanjjfaaDoor
