/- The walks of num and math/bits, part I: Div64 whole. -/
import Derived.Test.YteddbdmddgmicaaNumH
namespace Go.Proofs.Yteddbdmddgmicaa
open Go.RowKit
set_option linter.unusedVariables false
set_option linter.unusedSimpArgs false

theorem or_add_u64 (a b s : Nat) (hb : b < 2 ^ s) (h : a * 2 ^ s + b < 18446744073709551616) : bits .or .u64 ((a * 2 ^ s : Nat) : Int) (b : Int) = ((a * 2 ^ s + b : Nat) : Int) := by
  rw [u64_or _ _ (by omega) (by omega) (by omega) (by omega)]
  simp only [Int.toNat_natCast]
  rw [Nat.mul_comm a, ← Nat.two_pow_add_eq_or_of_lt hb]
theorem two_words (u v : Nat) : (u * 4294967296 + v / 4294967296) * 4294967296 + v % 4294967296 = u * 18446744073709551616 + v := by
  have h := Nat.div_add_mod v 4294967296
  rw [Nat.add_mul, Nat.mul_assoc, show 4294967296 * 4294967296 = 18446744073709551616 from rfl, Nat.mul_comm (v / 4294967296), Nat.add_assoc, h]
theorem div64_any (h l y : Nat) (hhy : h < y) (hl : l < 18446744073709551616) (hy : y < 18446744073709551616) (w : World) :
    Calls Try.prog 43 #[.int .u64 (h : Int), .int .u64 (l : Int), .int .u64 (y : Int)] w fun e w' => e = .returned (.tuple #[.int .u64 (((h * 18446744073709551616 + l) / y : Nat) : Int), .int .u64 (((h * 18446744073709551616 + l) % y : Nat) : Int)]) ∧ Below w.heap.size w w' := by
  by_cases h0 : h = 0
  · subst h0
    have := div64_low l y hl (by omega) hy w
    rwa [Nat.zero_mul, Nat.zero_add]
  · obtain ⟨s, hs, hsl, hs1, hs2⟩ := lead_ex y (by omega) hy
    have HZ := fun w => lead_any y w (by omega) hy
    rw [hsl] at HZ
    obtain ⟨hb, hsp⟩ := shift_split h l s hs hl
    have hp : 0 < 2 ^ s := Nat.pow_pos (by omega)
    have hule : (h * 2 ^ s + l / 2 ^ (64 - s)) < y * 2 ^ s := by
      have h1 : (h + 1) * 2 ^ s ≤ y * 2 ^ s := Nat.mul_le_mul_right _ (by omega)
      rw [Nat.add_mul, Nat.one_mul] at h1
      omega
    have hsh := div_shift (h * 18446744073709551616 + l) y s (by omega)
    rw [hsp] at hsh
    have hYd : y * 2 ^ s / 4294967296 * 4294967296 + y * 2 ^ s % 4294967296 = y * 2 ^ s := by omega
    have hu : h * 2 ^ s + l / 2 ^ (64 - s) < 18446744073709551616 := by omega
    have hor := or_add_u64 h (l / 2 ^ (64 - s)) s hb hu
    have hpw : ∀ a : Nat, (a : Int) * 2 ^ s = ((a * 2 ^ s : Nat) : Int) := fun a => by rw [Int.natCast_mul, Int.natCast_pow]; rfl
    have hdv : (l : Int) / 2 ^ (64 - s) = ((l / 2 ^ (64 - s) : Nat) : Int) := by rw [show ((2 : Int) ^ (64 - s)) = ((2 ^ (64 - s) : Nat) : Int) from (Int.natCast_pow 2 (64 - s)).symm]; rfl
    have hv := Nat.mod_lt (l * 2 ^ s) (show 18446744073709551616 > 0 by omega)
    have hyh : h * 2 ^ s < 18446744073709551616 := Nat.lt_of_le_of_lt (Nat.le_add_right _ _) hu
    have e1 := (congrArg IntKind.u64.wrap (hpw y)).trans (mul_wrapN _ hs2)
    have e4 := (congrArg IntKind.u64.wrap (hpw h)).trans (mul_wrapN _ hyh)
    have e6 := (congrArg IntKind.u64.wrap (hpw l)).trans (mul_wrapM _)
    rw [← hdv] at hor
    generalize hpY : y * 2 ^ s = Yn at *
    generalize hpv : l * 2 ^ s % 18446744073709551616 = vn at *
    generalize hpu : h * 2 ^ s + l / 2 ^ (64 - s) = un at *
    have hd2 := div_two (un * 4294967296 + vn / 4294967296) (vn % 4294967296) Yn (by omega)
    have hnn : (un * 4294967296 + vn / 4294967296) * 4294967296 + vn % 4294967296 = un * 18446744073709551616 + vn := two_words un vn
    rw [hnn] at hd2
    have kA : DivAt un (Yn / 4294967296) (Yn % 4294967296) (vn / 4294967296) := by refine ⟨?_, ?_, ?_, ?_, ?_⟩ <;> omega
    have hml := Nat.mod_lt (un * 4294967296 + vn / 4294967296) (show Yn > 0 by omega)
    have kB : DivAt ((un * 4294967296 + vn / 4294967296) % Yn) (Yn / 4294967296) (Yn % 4294967296) (vn % 4294967296) := by refine ⟨?_, ?_, ?_, ?_, ?_⟩ <;> omega
    refine div64_core (h : Int) (l : Int) (y : Int) (Yn : Int) ((Yn / 4294967296 : Nat) : Int) ((Yn % 4294967296 : Nat) : Int) _ (un : Int) (vn : Int) ((vn / 4294967296 : Nat) : Int) ((vn % 4294967296 : Nat) : Int) _ _ s (by omega) (by omega) (by omega) (by omega) (by omega) hs
      e1 (by omega) (mul_maskN _ hs2) e4 hor e6 (by omega) (mul_maskN _ hv) (by omega) (by omega) (by omega) (by omega) (by omega) (by omega) (by omega) (by omega) (by omega) (by omega) (by omega) (by omega) ?_ ?_ w ?_ ?_ (Lib.hid HZ)
    · simpa only [Int.toNat_natCast] using kA
    · simpa only [Int.toNat_natCast, hYd] using kB
    · simp only [Int.toNat_natCast, hYd]; rw [← hsh.1, hd2.1]
    · simp only [Int.toNat_natCast, hYd]; rw [← hsh.2, hd2.2]
end Go.Proofs.Yteddbdmddgmicaa
