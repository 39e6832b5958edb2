/- Words for tables in memory: a square of numbers, and a square of marks. -/
import Derived.Test.YtamfhommmogknaaIMem
import Derived.Test.YtamfhommmogknaaIO
import Derived.Test.YtamfhommmogknaaProg
import Derived.KernelRfl
import Derived.Deep.QuietTactic
import Derived.BigQuiet
import Derived.Lib.Hide
import Derived.Outline
import Derived.LoopTactic
namespace Go.Proofs.Ytamfhommmogknaa
open Go Go.RowKit
set_option linter.unusedVariables false
set_option linter.unusedSimpArgs false
set_option maxRecDepth 100000

/-- A slice of marks, a value that is one, a slice of such. -/
def RdB (w : World) (B : Nat) (A : Option Addr) (l : List Bool) : Prop := Reads w B 1 A l.length (l.map Value.bool)
def HdB (w : World) (B : Nat) (u : Value) (r : List Bool) : Prop := ∃ A c, u = .slice A r.length c ∧ r.length ≤ c ∧ c ≤ 9223372036854775807 ∧ RdB w B A r
def RdQ (w : World) (B : Nat) (A : Option Addr) (rows : List (List Bool)) : Prop := ∃ vs : List Value, vs.length = rows.length ∧ Reads w B 1 A rows.length vs ∧ ∀ (i : Nat) (r : List Bool) (u : Value), rows[i]? = some r → vs[i]? = some u → HdB w B u r
section
variable {w w' : World} {B B' : Nat} {A : Option Addr}
theorem RdB.keep {l : List Bool} (h : RdB w B A l) (hk : Alike B w w') : RdB w' B A l := Reads.keep h hk
theorem RdB.more {l : List Bool} (h : RdB w B A l) (hB : B ≤ B') : RdB w B' A l := Reads.more h hB
theorem HdB.keep {u : Value} {r : List Bool} (h : HdB w B u r) (hk : Alike B w w') : HdB w' B u r := by
  obtain ⟨A, c, e, h1, h2, h3⟩ := h
  exact ⟨A, c, e, h1, h2, h3.keep hk⟩
theorem HdB.more {u : Value} {r : List Bool} (h : HdB w B u r) (hB : B ≤ B') : HdB w B' u r := by
  obtain ⟨A, c, e, h1, h2, h3⟩ := h
  exact ⟨A, c, e, h1, h2, h3.more hB⟩
theorem RdQ.keep {rows : List (List Bool)} (h : RdQ w B A rows) (hk : Alike B w w') : RdQ w' B A rows := by
  obtain ⟨vs, h1, h2, h3⟩ := h
  exact ⟨vs, h1, h2.keep hk, fun i r u hr hu => (h3 i r u hr hu).keep hk⟩
theorem RdQ.more {rows : List (List Bool)} (h : RdQ w B A rows) (hB : B ≤ B') : RdQ w B' A rows := by
  obtain ⟨vs, h1, h2, h3⟩ := h
  exact ⟨vs, h1, h2.more hB, fun i r u hr hu => (h3 i r u hr hu).more hB⟩
theorem RdB.get {l : List Bool} (h : RdB w B A l) {k : Nat} {x : Bool} (hx : l[k]? = some x) : ∃ b o, A = some ⟨b, o, none⟩ ∧ b < B ∧ w.cell? ⟨b, o + k, none⟩ = some (.bool x) :=
  Reads.get h (by rw [List.getElem?_map, hx]; rfl) (pos_of_get hx)
theorem RdQ.get {rows : List (List Bool)} (h : RdQ w B A rows) {k : Nat} {r : List Bool} (hr : rows[k]? = some r) : ∃ b o A' c', A = some ⟨b, o, none⟩ ∧ b < B ∧ w.cell? ⟨b, o + k, none⟩ = some (.slice A' r.length c') ∧ r.length ≤ c' ∧ c' ≤ 9223372036854775807 ∧ RdB w B A' r := by
  obtain ⟨vs, h1, h2, h3⟩ := h
  have hk : k < vs.length := by have := (List.getElem?_eq_some_iff.1 hr).1; omega
  have hu := List.getElem?_eq_getElem hk
  obtain ⟨b, o, e, hb, hc⟩ := h2.get hu (pos_of_get hr)
  obtain ⟨A', c', e', h4, h5, h6⟩ := h3 k r _ hr hu
  rw [e'] at hc
  exact ⟨b, o, A', c', e, hb, hc, h4, h5, h6⟩
end
/-- A table: its two slices lie in memory. -/
structure TabAt (w : World) (B : Nat) (c : List (List Int)) (no : List (List Bool)) (A1 : Option Addr) (c1 : Nat) (A2 : Option Addr) (c2 : Nat) : Prop where
  cost : RdR w B A1 c
  no_ : RdQ w B A2 no
  n1 : c.length ≤ c1 ∧ c1 ≤ 9223372036854775807
  n2 : no.length ≤ c2 ∧ c2 ≤ 9223372036854775807
  in_ : ∀ r ∈ c, ∀ x ∈ r, InI x
  bd : B ≤ w.heap.size
section
variable {w w' : World} {B B' : Nat} {c : List (List Int)} {no : List (List Bool)} {A1 A2 : Option Addr} {c1 c2 : Nat}
theorem TabAt.keep (h : TabAt w B c no A1 c1 A2 c2) (hk : Alike B w w') (hs : w.heap.size ≤ w'.heap.size) : TabAt w' B c no A1 c1 A2 c2 :=
  ⟨h.cost.keep hk, h.no_.keep hk, h.n1, h.n2, h.in_, by have := h.bd; omega⟩
theorem TabAt.below (h : TabAt w B c no A1 c1 A2 c2) (hb : Below w.heap.size w w') : TabAt w' B c no A1 c1 A2 c2 := h.keep (Alike.of_below hb h.bd) hb.size
theorem TabAt.more (h : TabAt w B c no A1 c1 A2 c2) (hB : B ≤ B') (hw : B' ≤ w.heap.size) : TabAt w B' c no A1 c1 A2 c2 := ⟨h.cost.more hB, h.no_.more hB, h.n1, h.n2, h.in_, hw⟩
end
/-- May it be a table? -/
def ChkP (c : List (List Int)) (no : List (List Bool)) : Prop := c.length ≤ 64 ∧ no.length = c.length ∧ ∀ (i : Nat) (r : List Int), c[i]? = some r → r.length = c.length ∧ (∃ q, no[i]? = some q ∧ q.length = c.length) ∧ ∀ x ∈ r, -2147483648 ≤ x ∧ x ≤ 2147483648
open Classical in
noncomputable def chkB (c : List (List Int)) (no : List (List Bool)) : Bool := decide (ChkP c no)
theorem chkB_t {c : List (List Int)} {no : List (List Bool)} (h : ChkP c no) : chkB c no = true := by unfold chkB; simp [h]
theorem chkB_f {c : List (List Int)} {no : List (List Bool)} (h : ¬ ChkP c no) : chkB c no = false := by unfold chkB; simp [h]
theorem chkB_of {c : List (List Int)} {no : List (List Bool)} (h : chkB c no = true) : ChkP c no := by unfold chkB at h; simpa using h
theorem chkB_off {c : List (List Int)} {no : List (List Bool)} (h : chkB c no = false) : ¬ ChkP c no := by unfold chkB at h; simpa using h
/-- Farther from nought than m. -/
def farB (n m : Int) : Bool := decide (n < -m) || decide (m < n)
theorem far_c (n : Int) (w : World) : Calls Try.prog 25 #[.int .i64 n, .int .i64 2147483648] w fun e w' => e = .returned (.bool (farB n 2147483648)) ∧ Below w.heap.size w w' := by
  by_cases h1 : n < -2147483648
  · rw [show farB n 2147483648 = true by simp [farB, h1]]
    go_enter Try.func25, Try.ntmps25
    go_wp2
    go_ret
    exact ⟨rfl, Below.refl _ _⟩
  · by_cases h2 : 2147483648 < n
    · rw [show farB n 2147483648 = true by simp [farB, h2]]
      go_enter Try.func25, Try.ntmps25
      go_wp2
      go_ret
      exact ⟨rfl, Below.refl _ _⟩
    · rw [show farB n 2147483648 = false by simp [farB]; omega]
      go_enter Try.func25, Try.ntmps25
      go_wp2
      go_ret
      exact ⟨rfl, Below.refl _ _⟩
theorem far_w (n : Int) (w : World) : Calls Try.prog 25 #[.int .i64 n, .int .i64 549755813888] w fun e w' => e = .returned (.bool (farB n 549755813888)) ∧ Below w.heap.size w w' := by
  by_cases h1 : n < -549755813888
  · rw [show farB n 549755813888 = true by simp [farB, h1]]
    go_enter Try.func25, Try.ntmps25
    go_wp2
    go_ret
    exact ⟨rfl, Below.refl _ _⟩
  · by_cases h2 : 549755813888 < n
    · rw [show farB n 549755813888 = true by simp [farB, h2]]
      go_enter Try.func25, Try.ntmps25
      go_wp2
      go_ret
      exact ⟨rfl, Below.refl _ _⟩
    · rw [show farB n 549755813888 = false by simp [farB]; omega]
      go_enter Try.func25, Try.ntmps25
      go_wp2
      go_ret
      exact ⟨rfl, Below.refl _ _⟩
theorem farC_any (n : Int) (w : World) : Calls Try.prog 24 #[.int .i64 n] w fun e w' => e = .returned (.bool (farB n 2147483648)) ∧ Below w.heap.size w w' := by
  have H1 := Lib.hid (fun w => far_c n w)
  generalize farB n 2147483648 = z at H1 ⊢
  go_enter Try.func24, Try.ntmps24
  go_wp2_with fail
  (with_reducible refine (H1.out _).mono ?_); rintro e v1 ⟨rfl, hb1⟩
  go_wp2
  go_ret
  exact ⟨rfl, hb1⟩
theorem farW_any (n : Int) (w : World) : Calls Try.prog 27 #[.int .i64 n] w fun e w' => e = .returned (.bool (farB n 549755813888)) ∧ Below w.heap.size w w' := by
  have H1 := Lib.hid (fun w => far_w n w)
  generalize farB n 549755813888 = z at H1 ⊢
  go_enter Try.func27, Try.ntmps27
  go_wp2_with fail
  (with_reducible refine (H1.out _).mono ?_); rintro e v1 ⟨rfl, hb1⟩
  go_wp2
  go_ret
  exact ⟨rfl, hb1⟩
end Go.Proofs.Ytamfhommmogknaa
