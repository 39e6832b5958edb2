/- The walks of package num, part A. -/
import Derived.Test.YtamfhommmogknaaProg
import Derived.Test.YtamfhommmogknaaNumMath
import Derived.WalkKit
import Derived.KernelRfl
import Derived.Deep.QuietTactic
import Derived.BigQuiet
import Derived.Lib.Hide
import Derived.Outline
import Derived.Laws.Externs
namespace Go.Proofs.Ytamfhommmogknaa
open Go.RowKit
set_option linter.unusedVariables false
set_option linter.unusedSimpArgs false
set_option maxRecDepth 100000

def carry64 (s : Int) : Int := s / 18446744073709551616
def borrow64 (x y : Int) : Int := if x < y then 1 else 0
theorem add64_run (x y c : Int) (hx : 0 ≤ x) (hy : 0 ≤ y) (hc0 : 0 ≤ c) (hc : c ≤ 1) (w : World) :
    (callFunc 42 #[.int .u64 x, .int .u64 y, .int .u64 c]).run Try.prog w =
      .ok (.value (.tuple #[.int .u64 (IntKind.u64.wrap (x + y + c)), .int .u64 (carry64 (x + y + c))])) w := by
  rw [run_callFunc_extern Try.func42 (by kernel_rfl) (by kernel_rfl) (by kernel_rfl) (e := add64Entry) (by kernel_rfl), run_add64 x y c hx hy hc0 hc]
  simp only [Result.andThen, IntKind.wrap_u64, carry64]
def sub64Entry : Array Value → Sem Value := fun args => do
  let (x, y, b) ← Extern.MathBitsCarry.three "Sub64" args
  pure (Extern.MathBitsCarry.pair ((x + Extern.MathBitsCarry.m64 - y - b) % Extern.MathBitsCarry.m64) (if x < y + b then 1 else 0))
theorem run_sub64 {P : Program} (x y b : Nat) (hb : b ≤ 1) (w : World) :
    (sub64Entry #[.int .u64 x, .int .u64 y, .int .u64 b]).run P w =
      .ok (.tuple #[.int .u64 (((x + 18446744073709551616 - y - b) % 18446744073709551616 : Nat) : Int), .int .u64 ((if x < y + b then 1 else 0 : Nat) : Int)]) w := by
  have : b = 0 ∨ b = 1 := by omega
  rcases this with rfl | rfl <;> rfl
theorem sub64_run (x y c : Int) (hx : 0 ≤ x) (hy : 0 ≤ y) (hy1 : InU y) (hc0 : 0 ≤ c) (hc : c ≤ 1) (w : World) :
    (callFunc 45 #[.int .u64 x, .int .u64 y, .int .u64 c]).run Try.prog w =
      .ok (.value (.tuple #[.int .u64 (IntKind.u64.wrap (x - y - c)), .int .u64 (borrow64 x (y + c))])) w := by
  obtain ⟨X, rfl⟩ := Int.eq_ofNat_of_zero_le hx
  obtain ⟨Y, rfl⟩ := Int.eq_ofNat_of_zero_le hy
  obtain ⟨C, rfl⟩ := Int.eq_ofNat_of_zero_le hc0
  rw [run_callFunc_extern Try.func45 (by kernel_rfl) (by kernel_rfl) (by kernel_rfl) (e := sub64Entry) (by kernel_rfl), run_sub64 X Y C (by omega)]
  simp only [Result.andThen, IntKind.wrap_u64, borrow64]
  have h1 : (Y : Int) < 18446744073709551616 := hy1.2
  have e1 : (((X + 18446744073709551616 - Y - C) % 18446744073709551616 : Nat) : Int) = ((X : Int) - Y - C) % 18446744073709551616 := by
    have hYC : Y + C ≤ 18446744073709551616 := by omega
    omega
  have e2 : ((if X < Y + C then 1 else 0 : Nat) : Int) = if (X : Int) < Y + C then 1 else 0 := by
    by_cases h : X < Y + C
    · rw [if_pos h, if_pos (by omega)]; rfl
    · rw [if_neg h, if_neg (by omega)]; rfl
  rw [e1, e2]

set_option maxHeartbeats 400000 in
theorem size_any (a : Int) (w : World) (ha : InI a) :
    Calls Try.prog 41 #[.int .i64 a] w fun e w' => e = .returned (.int .u64 a.natAbs) ∧ w = w' := by
  by_cases h : a < 0
  · go_enter Try.func41, Try.ntmps41
    go_wp2
    go_ret
    refine ⟨?_, rfl⟩
    show Ending.returned (.int .u64 (IntKind.u64.wrap (-IntKind.u64.wrap a))) = _
    rw [IntKind.wrap_u64, IntKind.wrap_u64]
    have := ha.1
    congr 2; omega
  · go_enter Try.func41, Try.ntmps41
    go_wp2
    go_ret
    refine ⟨?_, rfl⟩
    show Ending.returned (.int .u64 (IntKind.u64.wrap a)) = _
    rw [IntKind.wrap_u64]
    have := ha.2
    congr 2; omega

/-- It returns the number z in 128 bits; what there was is as it was. -/
def RetW (z : Int) (w : World) (e : Ending) (w' : World) : Prop := ∃ n h l, e = .returned (.agg #[.bool n, .int .u64 h, .int .u64 l]) ∧ IsW n h l z ∧ Below w.heap.size w w'

set_option maxHeartbeats 400000 in
theorem normal_any (n : Bool) (h l z : Int) (w : World) (h0 : 0 ≤ h) (h1 : h < 18446744073709551616) (l0 : 0 ≤ l) (l1 : l < 18446744073709551616)
    (hz : z = if n = true then -(h * 18446744073709551616 + l) else h * 18446744073709551616 + l) :
    Calls Try.prog 39 #[.agg #[.bool n, .int .u64 h, .int .u64 l]] w (RetW z w) := by
  have hor := u64_or_zero h l h0 h1 l0 l1
  have HZ := Lib.hid hz
  have HH := Lib.hid h1
  have HL := Lib.hid l1
  clear hz h1 l1
  cases n
  · go_enter Try.func39, Try.ntmps39
    go_wp2
    have h1 := HH.out; have l1 := HL.out; have hz := HZ.out
    simp only [Bool.false_eq_true, if_false] at hz
    refine bodyPost_ret (v := .agg #[.bool false, .int .u64 h, .int .u64 l]) (by simp [results, Try.results39, go_sem]) rfl ⟨_, _, _, rfl, ?_, ?_⟩
    · exact .mk_ h0 h1 l0 l1 (.inr ⟨rfl, by omega, hz⟩)
    · exact bl_alloc (bl_alloc (Below.refl _ _) _) _
  · go_enter Try.func39, Try.ntmps39
    go_wp2
    have h1 := HH.out; have l1 := HL.out; have hz := HZ.out
    simp only [if_true] at hz
    refine bodyPost_ret (v := .agg #[.bool (decide (0 < h + l)), .int .u64 h, .int .u64 l]) (by simp [results, Try.results39, go_sem]) rfl ⟨_, _, _, rfl, ?_, ?_⟩
    · refine .mk_ h0 h1 l0 l1 ?_
      by_cases hp : 0 < h + l
      · exact .inl ⟨decide_eq_true hp, by omega, hz⟩
      · exact .inr ⟨decide_eq_false hp, by omega, by omega⟩
    · exact bl_alloc (bl_alloc (Below.refl _ _) _) _

set_option maxHeartbeats 400000 in
theorem of_any (a : Int) (w : World) (ha : InI a) : Calls Try.prog 36 #[.int .i64 a] w (RetW a w) := by
  go_enter Try.func36, Try.ntmps36
  go_wp2_with (go_at_call 41; refine (size_any _ _ ha).mono ?_; rintro e w' ⟨rfl, rfl⟩)
  refine bodyPost_ret (v := .agg #[.bool (decide (a < 0)), .int .u64 0, .int .u64 a.natAbs]) (by simp [results, Try.results36, go_sem]) rfl ⟨_, _, _, rfl, ?_, ?_⟩
  · have := ha.1; have := ha.2
    refine .mk_ (by omega) (by omega) (by omega) (by omega) ?_
    by_cases h : a < 0
    · exact .inl ⟨decide_eq_true h, h, by omega⟩
    · exact .inr ⟨decide_eq_false h, by omega, by omega⟩
  · exact bl_alloc (Below.refl _ _) _

set_option maxHeartbeats 400000 in
theorem plus_any (n m : Bool) (h l h' l' a b : Int) (w : World) (ka : IsW n h l a) (kb : IsW m h' l' b) (hnm : n = m)
    (hs : -340282366920938463463374607431768211456 < a + b) (hs' : a + b < 340282366920938463463374607431768211456) :
    Calls Try.prog 37 #[.agg #[.bool n, .int .u64 h, .int .u64 l], .agg #[.bool m, .int .u64 h', .int .u64 l']] w (RetW (a + b) w) := by
  have a0 := ka.h0
  have a1 := ka.l0
  have a2 := kb.h0
  have a3 := kb.l0
  have c0 : 0 ≤ carry64 (l + l') := by unfold carry64; omega
  have c1 : carry64 (l + l') ≤ 1 := by unfold carry64; have := ka.l1; have := kb.l1; omega
  have H := add64_run
  have HN := Lib.hid hnm
  have H1 := Lib.hid hs
  have H2 := Lib.hid hs'
  clear hnm hs hs'
  go_enter Try.func37, Try.ntmps37
  go_wp2
  refine bodyPost_ret (v := .agg #[.bool n, .int .u64 (IntKind.u64.wrap (h + h' + carry64 (l + l'))), .int .u64 (IntKind.u64.wrap (l + l'))]) (by simp [results, Try.results37, go_sem]) rfl ⟨_, _, _, rfl, ?_, ?_⟩
  · have hnm := HN.out; have hs := H1.out; have hs' := H2.out
    rw [IntKind.wrap_u64, IntKind.wrap_u64]
    have k1 := ka.h1; have k2 := ka.l1; have k3 := kb.h1; have k4 := kb.l1
    subst hnm
    unfold carry64 at *
    rcases ka.cases_ with ⟨e1, p1, q1⟩ | ⟨e1, p1, q1⟩
    · rcases kb.cases_ with ⟨e2, p2, q2⟩ | ⟨e2, p2, q2⟩
      · exact .mk_ (by omega) (by omega) (by omega) (by omega) (.inl ⟨e1, by omega, by omega⟩)
      · rw [e1] at e2; cases e2
    · rcases kb.cases_ with ⟨e2, p2, q2⟩ | ⟨e2, p2, q2⟩
      · rw [e1] at e2; cases e2
      · exact .mk_ (by omega) (by omega) (by omega) (by omega) (.inr ⟨e1, by omega, by omega⟩)
  · exact bl_alloc (bl_alloc (bl_alloc (Below.refl _ _) _) _) _

set_option maxHeartbeats 400000 in
theorem less_any (n m : Bool) (h l h' l' a b : Int) (w : World) (ka : IsW n h l a) (kb : IsW m h' l' b) (_hab : b.natAbs ≤ a.natAbs) :
    Calls Try.prog 40 #[.agg #[.bool n, .int .u64 h, .int .u64 l], .agg #[.bool m, .int .u64 h', .int .u64 l']] w fun e w' => e = .returned (.agg #[.bool n, .int .u64 (IntKind.u64.wrap (h - h' - borrow64 l l')), .int .u64 (IntKind.u64.wrap (l - l'))]) ∧ Below w.heap.size w w' := by
  have a0 := ka.h0
  have a1 := ka.l0
  have a2 := kb.h0
  have a3 := kb.l0
  have u1 : InU l' := ⟨kb.l0, kb.l1⟩
  have u2 : InU h' := ⟨kb.h0, kb.h1⟩
  have c0 : 0 ≤ borrow64 l l' := by unfold borrow64; split <;> omega
  have c1 : borrow64 l l' ≤ 1 := by unfold borrow64; split <;> omega
  have H := sub64_run
  go_enter Try.func40, Try.ntmps40
  go_wp2
  refine bodyPost_ret (v := .agg #[.bool n, .int .u64 (IntKind.u64.wrap (h - h' - borrow64 l l')), .int .u64 (IntKind.u64.wrap (l - l'))]) (by simp [results, Try.results40, go_sem]) rfl ⟨rfl, ?_⟩
  exact bl_alloc (bl_alloc (bl_alloc (Below.refl _ _) _) _) _

theorem less_math (n m : Bool) (h l h' l' a b : Int) (ka : IsW n h l a) (kb : IsW m h' l' b) (hab : b.natAbs ≤ a.natAbs) :
    0 ≤ IntKind.u64.wrap (h - h' - borrow64 l l') ∧ IntKind.u64.wrap (h - h' - borrow64 l l') < 18446744073709551616 ∧ 0 ≤ IntKind.u64.wrap (l - l') ∧ IntKind.u64.wrap (l - l') < 18446744073709551616 ∧
    IntKind.u64.wrap (h - h' - borrow64 l l') * 18446744073709551616 + IntKind.u64.wrap (l - l') = a.natAbs - b.natAbs := by
  rw [IntKind.wrap_u64, IntKind.wrap_u64]
  have k1 := ka.h1; have k2 := ka.l1; have k3 := kb.h1; have k4 := kb.l1
  have j1 := ka.h0; have j2 := ka.l0; have j3 := kb.h0; have j4 := kb.l0
  have ea : (a.natAbs : Int) = h * 18446744073709551616 + l := by rcases ka.cases_ with ⟨_, _, _⟩ | ⟨_, _, _⟩ <;> omega
  have eb : (b.natAbs : Int) = h' * 18446744073709551616 + l' := by rcases kb.cases_ with ⟨_, _, _⟩ | ⟨_, _, _⟩ <;> omega
  unfold borrow64
  split <;> omega

set_option maxHeartbeats 400000 in
theorem compare_any (x y : Int) (w : World) : Calls Try.prog 44 #[.int .u64 x, .int .u64 y] w fun e w' => e = .returned (.int .i64 (cmp3 x y)) ∧ w = w' := by
  unfold cmp3
  by_cases h1 : x < y
  · go_enter Try.func44, Try.ntmps44
    go_wp2
    go_ret
    refine ⟨?_, rfl⟩
    rfl
  · by_cases h2 : x = y
    · subst h2
      go_enter Try.func44, Try.ntmps44
      go_wp2
      go_ret
      refine ⟨?_, rfl⟩
      rfl
    · have h3 : y < x := by omega
      go_enter Try.func44, Try.ntmps44
      go_wp2
      go_ret
      refine ⟨?_, rfl⟩
      rfl
end Go.Proofs.Ytamfhommmogknaa
