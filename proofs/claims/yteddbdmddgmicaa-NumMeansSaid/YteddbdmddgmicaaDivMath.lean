/- A quotient of 128 by 64 bits, digit by digit by 2^32: plain laws. -/
import Derived.Test.YteddbdmddgmicaaNumMath
namespace Go.Proofs.Yteddbdmddgmicaa
set_option linter.unusedVariables false

/-- One digit's guess: d = n1 * 2^32 + n0; it isn't too small; r is what is left of u. -/
structure DivIn (u n1 n0 u1 q r : Nat) : Prop where
  eq : q * n1 + r = u
  ge : (u * 4294967296 + u1) / (n1 * 4294967296 + n0) ≤ q
  rlt : r < 4294967296
  qle : q ≤ 4294967297
/-- What is known of the numbers ahead. -/
structure DivAt (u n1 n0 u1 : Nat) : Prop where
  n1a : 2147483648 ≤ n1
  n1b : n1 < 4294967296
  n0b : n0 < 4294967296
  u1b : u1 < 4294967296
  ult : u < n1 * 4294967296 + n0

theorem DivIn.start {u n1 n0 u1 : Nat} (k : DivAt u n1 n0 u1) : DivIn u n1 n0 u1 (u / n1) (u % n1) := by
  obtain ⟨a, b, c, d, e⟩ := k
  have h1 := Nat.div_add_mod u n1
  have h2 := Nat.mod_lt u (show n1 > 0 by omega)
  refine ⟨by rw [Nat.mul_comm]; exact h1, ?_, by omega, ?_⟩
  · have hq := Nat.div_mul_le_self (u * 4294967296 + u1) (n1 * 4294967296 + n0)
    generalize (u * 4294967296 + u1) / (n1 * 4294967296 + n0) = Q at hq ⊢
    rw [Nat.le_div_iff_mul_le (by omega)]
    rw [Nat.mul_add, ← Nat.mul_assoc] at hq
    generalize Q * n1 = z at hq ⊢
    generalize Q * n0 = z' at hq
    omega
  · have : u / n1 < 4294967298 := by
      rw [Nat.div_lt_iff_lt_mul (by omega)]
      omega
    omega
theorem DivIn.done {u n1 n0 u1 q r : Nat} (h : DivIn u n1 n0 u1 q r) (k : DivAt u n1 n0 u1) (h2 : q * n0 ≤ 4294967296 * r + u1) : q = (u * 4294967296 + u1) / (n1 * 4294967296 + n0) := by
  obtain ⟨a, b, c, d, e⟩ := k
  apply Nat.le_antisymm _ h.ge
  rw [Nat.le_div_iff_mul_le (by omega), Nat.mul_add, ← Nat.mul_assoc]
  have := h.eq
  generalize q * n1 = z at *
  generalize q * n0 = z' at *
  omega
theorem DivIn.down {u n1 n0 u1 q r : Nat} (h : DivIn u n1 n0 u1 q r) (k : DivAt u n1 n0 u1) (h2 : 4294967296 ≤ q ∨ 4294967296 * r + u1 < q * n0) :
    1 ≤ q ∧ (q - 1) * n1 + (r + n1) = u ∧ (u * 4294967296 + u1) / (n1 * 4294967296 + n0) ≤ q - 1 := by
  obtain ⟨a, b, c, d, e⟩ := k
  have hQ : (u * 4294967296 + u1) / (n1 * 4294967296 + n0) < q := by
    rcases h2 with h2 | h2
    · have : (u * 4294967296 + u1) / (n1 * 4294967296 + n0) < 4294967296 := by
        rw [Nat.div_lt_iff_lt_mul (by omega)]
        omega
      omega
    · rw [Nat.div_lt_iff_lt_mul (by omega), Nat.mul_add, ← Nat.mul_assoc]
      have := h.eq
      generalize q * n1 = z at *
      generalize q * n0 = z' at *
      omega
  generalize (u * 4294967296 + u1) / (n1 * 4294967296 + n0) = Q at hQ ⊢
  obtain ⟨p, rfl⟩ : ∃ p, q = p + 1 := ⟨q - 1, by omega⟩
  refine ⟨by omega, ?_, by omega⟩
  have := h.eq
  rw [Nat.add_mul] at this
  simp only [Nat.add_sub_cancel]
  generalize p * n1 = z at *
  omega
theorem DivIn.step {u n1 n0 u1 q r : Nat} (h : DivIn u n1 n0 u1 q r) (k : DivAt u n1 n0 u1) (h2 : 4294967296 ≤ q ∨ 4294967296 * r + u1 < q * n0) (h3 : r + n1 < 4294967296) : DivIn u n1 n0 u1 (q - 1) (r + n1) := by
  obtain ⟨h0, h4, h5⟩ := h.down k h2
  exact ⟨h4, h5, h3, by have := h.qle; omega⟩
theorem DivIn.over {u n1 n0 u1 q r : Nat} (h : DivIn u n1 n0 u1 q r) (k : DivAt u n1 n0 u1) (h2 : 4294967296 ≤ q ∨ 4294967296 * r + u1 < q * n0) (h3 : 4294967296 ≤ r + n1) : q - 1 = (u * 4294967296 + u1) / (n1 * 4294967296 + n0) := by
  obtain ⟨h0, h4, h5⟩ := h.down k h2
  obtain ⟨a, b, c, d, e⟩ := k
  apply Nat.le_antisymm _ h5
  rw [Nat.le_div_iff_mul_le (by omega), Nat.mul_add, ← Nat.mul_assoc]
  have hq : (q - 1) * n0 ≤ 4294967296 * n0 := Nat.mul_le_mul_right _ (by have := h.qle; omega)
  generalize (q - 1) * n1 = z at *
  generalize (q - 1) * n0 = z' at *
  omega
theorem DivIn.prod {u n1 n0 u1 q r : Nat} (h : DivIn u n1 n0 u1 q r) (k : DivAt u n1 n0 u1) : q * n0 < 18446744073709551616 := by
  have h1 : q * n0 ≤ 4294967297 * n0 := Nat.mul_le_mul_right _ h.qle
  have := k.n0b
  omega
/-- The rest of a digit, in 64 bits. -/
theorem div_rest (u u1 d : Nat) (hd : 0 < d) (hd2 : d < 18446744073709551616) : ((u * 4294967296 + u1 : Nat) - ((u * 4294967296 + u1) / d * d : Nat) : Int) = (((u * 4294967296 + u1) % d : Nat) : Int) := by
  have := Nat.div_add_mod (u * 4294967296 + u1) d
  rw [Nat.mul_comm] at this
  generalize (u * 4294967296 + u1) / d * d = z at *
  omega
/-- Two digits make the quotient. -/
theorem div_two (x u0 d : Nat) (hd : 0 < d) :
    (x * 4294967296 + u0) / d = x / d * 4294967296 + (x % d * 4294967296 + u0) / d ∧ (x * 4294967296 + u0) % d = (x % d * 4294967296 + u0) % d := by
  have h := Nat.div_add_mod x d
  generalize x / d = q at h ⊢
  generalize x % d = r at h ⊢
  have e : x * 4294967296 + u0 = (r * 4294967296 + u0) + d * (q * 4294967296) := by
    rw [← h, Nat.add_mul, Nat.mul_assoc]; omega
  rw [e]
  constructor
  · rw [Nat.add_mul_div_left _ _ hd]; omega
  · rw [Nat.add_mul_mod_self_left]
/-- Shifting both sides. -/
theorem div_shift (n y s : Nat) (hy : 0 < y) : n * 2 ^ s / (y * 2 ^ s) = n / y ∧ n * 2 ^ s % (y * 2 ^ s) / 2 ^ s = n % y := by
  have hp : 0 < 2 ^ s := Nat.pow_pos (by omega)
  refine ⟨Nat.mul_div_mul_right _ _ hp, ?_⟩
  rw [Nat.mul_mod_mul_right, Nat.mul_div_cancel _ hp]
theorem shift_split (h l s : Nat) (hs : s ≤ 63) (hl : l < 18446744073709551616) :
    l / 2 ^ (64 - s) < 2 ^ s ∧ (h * 18446744073709551616 + l) * 2 ^ s = (h * 2 ^ s + l / 2 ^ (64 - s)) * 18446744073709551616 + l * 2 ^ s % 18446744073709551616 := by
  have e : 2 ^ (64 - s) * 2 ^ s = 18446744073709551616 := by rw [← Nat.pow_add, show 64 - s + s = 64 by omega]
  have hp : 0 < 2 ^ s := Nat.pow_pos (by omega)
  have hp2 : 0 < 2 ^ (64 - s) := Nat.pow_pos (by omega)
  have h1 : l * 2 ^ s / 18446744073709551616 = l / 2 ^ (64 - s) := by rw [← e, Nat.mul_div_mul_right _ _ hp]
  have h2 := Nat.div_add_mod (l * 2 ^ s) 18446744073709551616
  rw [h1] at h2
  refine ⟨?_, ?_⟩
  · rw [Nat.div_lt_iff_lt_mul hp2, Nat.mul_comm, e]; exact hl
  · rw [Nat.add_mul, Nat.add_mul, Nat.mul_right_comm, Nat.add_assoc]
    congr 1
    rw [Nat.mul_comm (l / 2 ^ (64 - s))]; exact h2.symm
end Go.Proofs.Yteddbdmddgmicaa
