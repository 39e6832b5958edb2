/- Letters, digits, blanks; does a run go on; a sign. -/
import Derived.Test.YtklomjpnmmaogaaDoorLM
import Derived.Test.YtklomjpnmmaogaaDoorLB0
import Derived.Test.YtklomjpnmmaogaaDoorProg
import Derived.KernelRfl
import Derived.Deep.QuietTactic
import Derived.BigQuiet
import Derived.Lib.Hide
import Derived.Outline
import Derived.LoopTactic
namespace Go.Proofs.YtklomjpnmmaogaaDoor
open Go Go.RowKit
set_option linter.unusedVariables false
set_option linter.unusedSimpArgs false
set_option maxRecDepth 100000

def isLet (r : Int) : Bool := decide (97 ≤ r) && decide (r ≤ 122)
def isDig (r : Int) : Bool := decide (48 ≤ r) && decide (r ≤ 57)
def isBlank (r : Int) : Bool := decide (r = 32) || (decide (r = 9) || (decide (r = 13) || decide (r = 10)))
theorem letter_any (r : Int) (w : World) : Calls Tryd.prog 70 #[.int .i32 r] w fun e w' => e = .returned (.bool (isLet r)) ∧ w' = w := by
  unfold isLet
  by_cases h1 : 97 ≤ r
  · by_cases h2 : r ≤ 122
    · go_enter Tryd.func70, Tryd.ntmps70
      go_wp2
      go_ret
      exact ⟨by simp [h1, h2], rfl⟩
    · go_enter Tryd.func70, Tryd.ntmps70
      go_wp2
      go_ret
      exact ⟨by simp [h1, h2], rfl⟩
  · go_enter Tryd.func70, Tryd.ntmps70
    go_wp2
    go_ret
    exact ⟨by simp; intro h; omega, rfl⟩
theorem digit_any (r : Int) (w : World) : Calls Tryd.prog 71 #[.int .i32 r] w fun e w' => e = .returned (.bool (isDig r)) ∧ w' = w := by
  unfold isDig
  by_cases h1 : 48 ≤ r
  · by_cases h2 : r ≤ 57
    · go_enter Tryd.func71, Tryd.ntmps71
      go_wp2
      go_ret
      exact ⟨by simp [h1, h2], rfl⟩
    · go_enter Tryd.func71, Tryd.ntmps71
      go_wp2
      go_ret
      exact ⟨by simp [h1, h2], rfl⟩
  · go_enter Tryd.func71, Tryd.ntmps71
    go_wp2
    go_ret
    exact ⟨by simp; intro h; omega, rfl⟩
theorem blank_any (r : Int) (w : World) : Calls Tryd.prog 74 #[.int .i32 r] w fun e w' => e = .returned (.bool (isBlank r)) ∧ w' = w := by
  unfold isBlank
  by_cases h1 : r = 32
  · subst h1
    go_enter Tryd.func74, Tryd.ntmps74
    go_wp2
    go_ret
    exact ⟨rfl, rfl⟩
  · by_cases h2 : r = 9
    · subst h2
      go_enter Tryd.func74, Tryd.ntmps74
      go_wp2
      go_ret
      exact ⟨rfl, rfl⟩
    · by_cases h3 : r = 13
      · subst h3
        go_enter Tryd.func74, Tryd.ntmps74
        go_wp2
        go_ret
        exact ⟨rfl, rfl⟩
      · by_cases h4 : r = 10
        · subst h4
          go_enter Tryd.func74, Tryd.ntmps74
          go_wp2
          go_ret
          exact ⟨rfl, rfl⟩
        · go_enter Tryd.func74, Tryd.ntmps74
          go_wp2
          go_ret
          exact ⟨by simp [h1, h2, h3, h4], rfl⟩
theorem tokA_any (r : Int) (w : World) : Calls Tryd.prog 92 #[.int .i32 r] w fun e w' => e = .returned (.bool (!isLet r)) ∧ w' = w := by
  have H := Lib.hid (fun w => letter_any r w)
  generalize isLet r = b at H ⊢
  go_enter Tryd.func92, Tryd.ntmps92
  go_wp2_with fail
  refine (H.out _).mono ?_; rintro e v1 ⟨rfl, rfl⟩
  go_wp2
  go_ret
  exact ⟨rfl, rfl⟩
theorem tokB_any (r : Int) (w : World) : Calls Tryd.prog 93 #[.int .i32 r] w fun e w' => e = .returned (.bool (!isDig r)) ∧ w' = w := by
  have H := Lib.hid (fun w => digit_any r w)
  generalize isDig r = b at H ⊢
  go_enter Tryd.func93, Tryd.ntmps93
  go_wp2_with fail
  refine (H.out _).mono ?_; rintro e v1 ⟨rfl, rfl⟩
  go_wp2
  go_ret
  exact ⟨rfl, rfl⟩
/-- A scan, cell by cell. -/
def scanC (s : ByteArray) (R : Value) (line col : Nat) (fr : Int) (al ac : Nat) (rem : Bool) : Array Value := #[.string s, R, .int .i64 line, .int .i64 col, .int .i64 fr, .int .i64 al, .int .i64 ac, .bool rem]
section
variable {s : ByteArray} {R : Value} {line col al ac : Nat} {fr : Int} {rem : Bool} {g : Nat} {w : World}
theorem runs_any (r : Int) (h : Blk w g 110 (scanC s R line col fr al ac rem)) : Calls Tryd.prog 49 #[.pointer (some ⟨g, 0, none⟩), .int .i32 r] w fun e w' => e = .returned (.bool (decide (0 ≤ fr) && (isLet r || isDig r))) ∧ w' = w := by
  have c4 : w.cell? ⟨g, 4, none⟩ = some (.int .i64 fr) := (h.cell 4).trans rfl
  have z := h.lt
  have H1 := Lib.hid (fun w => letter_any r w)
  have H2 := Lib.hid (fun w => digit_any r w)
  clear h
  generalize isLet r = b1 at H1 ⊢
  generalize isDig r = b2 at H2 ⊢
  by_cases h1 : 0 ≤ fr
  · cases b1
    · go_enter Tryd.func49, Tryd.ntmps49
      go_wp2_with fail
      refine (H1.out _).mono ?_; rintro e v1 ⟨rfl, rfl⟩
      go_wp2_with fail
      refine (H2.out _).mono ?_; rintro e v2 ⟨rfl, rfl⟩
      go_wp2
      go_ret
      exact ⟨by simp [h1], rfl⟩
    · go_enter Tryd.func49, Tryd.ntmps49
      go_wp2_with fail
      refine (H1.out _).mono ?_; rintro e v1 ⟨rfl, rfl⟩
      go_wp2
      go_ret
      exact ⟨by simp [h1], rfl⟩
  · go_enter Tryd.func49, Tryd.ntmps49
    go_wp2
    go_ret
    exact ⟨by simp; intro h; omega, rfl⟩
theorem minus_any (i : Nat) (hi : i < s.size) (hs : s.size ≤ 281474976710656) (h : Blk w g 110 (scanC s R line col fr al ac rem)) : Calls Tryd.prog 75 #[.pointer (some ⟨g, 0, none⟩), .int .i64 i] w fun e w' => e = .returned (.bool (decide ((s.get! i).toNat = 45) && headDig (s.data.toList.drop (i + 1)))) ∧ w' = w := by
  have c0 : w.cell? ⟨g, 0, none⟩ = some (.string s) := (h.cell 0).trans rfl
  have z := h.lt
  clear h
  have i0 : (0 : Int) ≤ i := by omega
  have i1 : (i : Int) < s.size := by omega
  have i2 : IntKind.i64.wrap ((i : Int) + 1) = i + 1 := by rw [IntKind.wrap_i64]; omega
  have ge : s.get! i = s[i] := get_get s i hi
  rw [ge]
  by_cases h1 : s[i].toNat = 45
  · by_cases h2 : i + 1 < s.size
    · have H2 := Lib.hid (fun w => digit_any (s[i + 1].toNat : Int) w)
      have i3 : wrap32 (s[i + 1].toNat : Int) = s[i + 1].toNat := by have := s[i + 1].toNat_lt; unfold wrap32; omega
      have i4 : (i : Int) + 1 < s.size := by omega
      have ed : headDig (s.data.toList.drop (i + 1)) = isDig (s[i + 1].toNat : Int) := by
        rw [get_drop s _ h2]
        simp only [headDig, digB, isDig]
        congr 1 <;> congr 1 <;> simp only [eq_iff_iff] <;> omega
      rw [ed]
      generalize isDig (s[i + 1].toNat : Int) = b at H2 ⊢
      go_enter Tryd.func75, Tryd.ntmps75
      go_wp2_with fail
      refine (H2.out _).mono ?_; rintro e v2 ⟨rfl, rfl⟩
      go_wp2
      go_ret
      exact ⟨by simp [h1], rfl⟩
    · have i4 : ¬ (i : Int) + 1 < s.size := by omega
      rw [List.drop_eq_nil_of_le (by simpa using h2)]
      go_enter Tryd.func75, Tryd.ntmps75
      go_wp2
      go_ret
      exact ⟨by simp [headDig], rfl⟩
  · have i5 : ((s[i].toNat : Int) == 45) = false := by simp; omega
    go_enter Tryd.func75, Tryd.ntmps75
    go_wp2
    go_ret
    exact ⟨by simp [h1], rfl⟩
end
end Go.Proofs.YtklomjpnmmaogaaDoor
