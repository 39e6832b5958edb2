/- Arrays of two numbers, held against each other. -/
import Derived.Test.YtklomjpnmmaogaaDoorII
import Derived.ChangeKeysEq
namespace Go.Proofs.YtklomjpnmmaogaaDoor
open Go Go.RowKit
set_option linter.unusedVariables false
set_option linter.unusedSimpArgs false
set_option maxRecDepth 100000

theorem eq_arr2 (w : World) (a b c d : Int) : (Op.equalIn 10000 83 (.agg #[.int .i64 a, .int .i64 b]) (.agg #[.int .i64 c, .int .i64 d])).run Tryd.prog w = .ok ((a == c) && (b == d)) w := by
  obtain ⟨i, hi⟩ : ∃ i, Tryd.prog.info? 2 = some i := ⟨_, rfl⟩
  have hc : Tryd.prog.cellsOf 2 = 1 := by kernel_rfl
  rw [run_equalIn_array w 9999 (n := 2) _ _ Tryd.underlying83 hi, hc]
  have hl : List.range 2 = [0, 1] := rfl
  rw [hl]
  have p0 : ∀ (x y : Int), (part 2 #[.int .i64 x, .int .i64 y] (0 * 1)).run Tryd.prog w = .ok (.int .i64 x) w := fun x y => by kernel_rfl
  have p1 : ∀ (x y : Int), (part 2 #[.int .i64 x, .int .i64 y] (1 * 1)).run Tryd.prog w = .ok (.int .i64 y) w := fun x y => by kernel_rfl
  have q : ∀ (x y : Int), (Op.equalIn 9999 2 (.int .i64 x) (.int .i64 y)).run Tryd.prog w = .ok (x == y) w := fun x y => run_equalIn_int w 9998 2 .i64 .i64 x y Tryd.underlying2
  have p1' : ∀ (x y : Int), (part 2 #[.int .i64 x, .int .i64 y] 1).run Tryd.prog w = .ok (.int .i64 y) w := fun x y => p1 x y
  have p0' : ∀ (x y : Int), (part 2 #[.int .i64 x, .int .i64 y] 0).run Tryd.prog w = .ok (.int .i64 x) w := fun x y => p0 x y
  simp only [Op.eqItems, Sem.run_bind, Nat.zero_mul, Nat.one_mul, p0', p1', q, Result.andThen_ok]
  cases h1 : (a == c)
  · simp
  · cases h2 : (b == d)
    · simp [p1', q, h2]
    · simp [p1', q, h2]
theorem neq_arr2 (w : World) (a b c d : Int) : (binOp .neq 83 (.agg #[.int .i64 a, .int .i64 b]) (.agg #[.int .i64 c, .int .i64 d])).run Tryd.prog w = .ok (.bool (!((a == c) && (b == d)))) w := by
  rw [run_neq_struct, eq_arr2]; rfl
end Go.Proofs.YtklomjpnmmaogaaDoor
