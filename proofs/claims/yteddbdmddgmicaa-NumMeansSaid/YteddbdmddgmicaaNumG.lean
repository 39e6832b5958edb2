/- The walks of num and math/bits, part G: Len64, LeadingZeros64. -/
import Derived.Test.YteddbdmddgmicaaNumF
import Derived.Lib.BitFns
import Derived.Lib.Small
import Derived.Lib.Strings
import Derived.Lib.Walk
namespace Go.Proofs.Yteddbdmddgmicaa
open Go.RowKit
set_option linter.unusedVariables false
set_option linter.unusedSimpArgs false

theorem tab_byte (n : Nat) (hn : n < Lib.len8tab.size) : (Lib.len8tab[n].toNat : Int) = (Lib.bitLen n : Int) := by
  have h := Lib.len8_eq ⟨n, by rw [← Lib.len8tab_size]; exact hn⟩
  unfold Lib.len8 at h
  simp only [Int.toNat_natCast] at h
  rw [getElem?_pos Lib.len8tab n hn] at h
  exact h

set_option maxHeartbeats 4000000 in
set_option maxRecDepth 100000 in
theorem len64_any (x : Int) (w : World) (h0 : 0 ≤ x) (h1 : x ≤ 18446744073709551615) :
    Calls Try.prog 53 #[.int .u64 x] w fun e w' => e = .returned (.int .i64 (Lib.bitLen x.toNat)) ∧ w = w' := by
  have hs : Lib.len8tab.size = 256 := Lib.len8tab_size
  have hu : Try.prog.underlying 9 = some .string := Try.underlying9
  go_enter Try.func53, Try.ntmps53
  go_wp2
  all_goals (go_ret; refine ⟨congrArg Ending.returned (congrArg (Value.int IntKind.i64) ?_), rfl⟩)
  · have e : (x / 4294967296 / 65536 / 256).toNat = x.toNat / 72057594037927936 := by omega
    have s := Lib.bitLen_shift 56 x.toNat (by omega) (by omega)
    have l := Lib.bitLen_le (x.toNat / 72057594037927936) 8 (by omega) (by omega)
    rw [tab_byte, e]
    change Lib.bitLen x.toNat = 56 + Lib.bitLen (x.toNat / 72057594037927936) at s
    generalize Lib.bitLen x.toNat = p at s ⊢
    generalize Lib.bitLen (x.toNat / 72057594037927936) = q at s l ⊢
    clear e
    unfold wrap64
    omega
  · have e : (x / 4294967296 / 65536).toNat = x.toNat / 281474976710656 := by omega
    have s := Lib.bitLen_shift 48 x.toNat (by omega) (by omega)
    have l := Lib.bitLen_le (x.toNat / 281474976710656) 8 (by omega) (by omega)
    rw [tab_byte, e]
    change Lib.bitLen x.toNat = 48 + Lib.bitLen (x.toNat / 281474976710656) at s
    generalize Lib.bitLen x.toNat = p at s ⊢
    generalize Lib.bitLen (x.toNat / 281474976710656) = q at s l ⊢
    clear e
    unfold wrap64
    omega
  · have e : (x / 4294967296 / 256).toNat = x.toNat / 1099511627776 := by omega
    have s := Lib.bitLen_shift 40 x.toNat (by omega) (by omega)
    have l := Lib.bitLen_le (x.toNat / 1099511627776) 8 (by omega) (by omega)
    rw [tab_byte, e]
    change Lib.bitLen x.toNat = 40 + Lib.bitLen (x.toNat / 1099511627776) at s
    generalize Lib.bitLen x.toNat = p at s ⊢
    generalize Lib.bitLen (x.toNat / 1099511627776) = q at s l ⊢
    clear e
    unfold wrap64
    omega
  · have e : (x / 4294967296).toNat = x.toNat / 4294967296 := by omega
    have s := Lib.bitLen_shift 32 x.toNat (by omega) (by omega)
    have l := Lib.bitLen_le (x.toNat / 4294967296) 8 (by omega) (by omega)
    rw [tab_byte, e]
    change Lib.bitLen x.toNat = 32 + Lib.bitLen (x.toNat / 4294967296) at s
    generalize Lib.bitLen x.toNat = p at s ⊢
    generalize Lib.bitLen (x.toNat / 4294967296) = q at s l ⊢
    clear e
    unfold wrap64
    omega
  · have e : (x / 65536 / 256).toNat = x.toNat / 16777216 := by omega
    have s := Lib.bitLen_shift 24 x.toNat (by omega) (by omega)
    have l := Lib.bitLen_le (x.toNat / 16777216) 8 (by omega) (by omega)
    rw [tab_byte, e]
    change Lib.bitLen x.toNat = 24 + Lib.bitLen (x.toNat / 16777216) at s
    generalize Lib.bitLen x.toNat = p at s ⊢
    generalize Lib.bitLen (x.toNat / 16777216) = q at s l ⊢
    clear e
    unfold wrap64
    omega
  · have e : (x / 65536).toNat = x.toNat / 65536 := by omega
    have s := Lib.bitLen_shift 16 x.toNat (by omega) (by omega)
    have l := Lib.bitLen_le (x.toNat / 65536) 8 (by omega) (by omega)
    rw [tab_byte, e]
    change Lib.bitLen x.toNat = 16 + Lib.bitLen (x.toNat / 65536) at s
    generalize Lib.bitLen x.toNat = p at s ⊢
    generalize Lib.bitLen (x.toNat / 65536) = q at s l ⊢
    clear e
    unfold wrap64
    omega
  · have e : (x / 256).toNat = x.toNat / 256 := by omega
    have s := Lib.bitLen_shift 8 x.toNat (by omega) (by omega)
    have l := Lib.bitLen_le (x.toNat / 256) 8 (by omega) (by omega)
    rw [tab_byte, e]
    change Lib.bitLen x.toNat = 8 + Lib.bitLen (x.toNat / 256) at s
    generalize Lib.bitLen x.toNat = p at s ⊢
    generalize Lib.bitLen (x.toNat / 256) = q at s l ⊢
    clear e
    unfold wrap64
    omega
  · have l := Lib.bitLen_le x.toNat 8 (by omega) (by omega)
    rw [tab_byte]
    generalize Lib.bitLen x.toNat = p at l ⊢
    unfold wrap64
    omega
/-- What bitLen is worth. -/
theorem bitLen_bd : ∀ (f x : Nat), x < 2 ^ f → 0 < x → 0 < Lib.bitLenAux f x ∧ 2 ^ (Lib.bitLenAux f x - 1) ≤ x ∧ x < 2 ^ Lib.bitLenAux f x
  | 0, x, h, h0 => by simp at h; omega
  | f + 1, x, h, h0 => by
    unfold Lib.bitLenAux
    rw [if_neg (by omega)]
    by_cases h2 : x / 2 = 0
    · have : x = 1 := by omega
      subst this
      have : Lib.bitLenAux f (1 / 2) = 0 := by cases f <;> simp [Lib.bitLenAux]
      rw [this]; simp
    · obtain ⟨b0, b1, b2⟩ := bitLen_bd f (x / 2) (by rw [Nat.pow_succ] at h; omega) (by omega)
      generalize Lib.bitLenAux f (x / 2) = L at b0 b1 b2
      obtain ⟨m, rfl⟩ : ∃ m, L = m + 1 := ⟨L - 1, by omega⟩
      simp only [Nat.add_sub_cancel] at b1
      rw [show 1 + (m + 1) = m + 2 by omega]
      simp only [show m + 2 - 1 = m + 1 by omega, Nat.pow_succ] at b2 ⊢
      omega
/-- The noughts ahead of a number: shifted by them its highest bit is set. -/
theorem lead_ex (y : Nat) (h0 : 0 < y) (h1 : y < 18446744073709551616) : ∃ s : Nat, s ≤ 63 ∧ 64 - (Lib.bitLen y : Int) = (s : Int) ∧ 9223372036854775808 ≤ y * 2 ^ s ∧ y * 2 ^ s < 18446744073709551616 := by
  obtain ⟨b0, b1, b2⟩ := bitLen_bd 64 y h1 h0
  have hl := Lib.bitLen_le y 64 (by omega) h1
  change 0 < Lib.bitLen y at b0
  change 2 ^ (Lib.bitLen y - 1) ≤ y at b1
  change y < 2 ^ Lib.bitLen y at b2
  generalize Lib.bitLen y = L at b0 b1 b2 hl
  refine ⟨64 - L, by omega, by omega, ?_, ?_⟩
  · have : 2 ^ (L - 1) * 2 ^ (64 - L) ≤ y * 2 ^ (64 - L) := Nat.mul_le_mul_right _ b1
    rw [← Nat.pow_add, show L - 1 + (64 - L) = 63 by omega] at this
    exact this
  · have : y * 2 ^ (64 - L) < 2 ^ L * 2 ^ (64 - L) := Nat.mul_lt_mul_of_pos_right b2 (Nat.pow_pos (by omega))
    rw [← Nat.pow_add, show L + (64 - L) = 64 by omega] at this
    exact this
theorem lead_any (y : Nat) (w : World) (h0 : 0 < y) (h1 : y < 18446744073709551616) :
    Calls Try.prog 49 #[.int .u64 y] w fun e w' => e = .returned (.int .i64 (64 - (Lib.bitLen y : Int))) ∧ w = w' := by
  have hl := Lib.bitLen_le y 64 (by omega) h1
  have HL := fun w => len64_any (y : Int) w (by omega) (by omega)
  rw [Int.toNat_natCast] at HL
  have H := Lib.hid HL
  clear HL
  generalize Lib.bitLen y = L at hl H
  go_enter Try.func49, Try.ntmps49
  go_wp2_with fail
  refine (H.out _).mono ?_; rintro e w1 ⟨rfl, rfl⟩
  go_wp2
  go_ret
  exact ⟨rfl, rfl⟩
end Go.Proofs.Yteddbdmddgmicaa
