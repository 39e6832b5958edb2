/- The walk of NumBack: what is added is taken away again; quotients rounded, times the divisor. -/
import Derived.Test.YteddbdmddgmicaaRefG
import Derived.Test.YteddbdmddgmicaaQuo
namespace Go.Proofs.Yteddbdmddgmicaa
open Go.RowKit
set_option linter.unusedVariables false
set_option linter.unusedSimpArgs false

def RetI (n : Int) (t : Bool) (w : World) (e : Ending) (w' : World) : Prop := e = .returned (.tuple #[.int .i64 n, .bool t]) ∧ Below w.heap.size w w'

set_option maxHeartbeats 6400000 in
set_option maxRecDepth 100000 in
theorem Back_p_even0 (a b s f c L : Int) (w : World)
    (HA : Hid (∀ w, Calls Try.prog 13 #[.int .i64 a, .int .i64 b] w (RetI s false w)))
    (HF : Hid (∀ w, Calls Try.prog 15 #[.int .i64 a, .int .i64 b] w (RetI f true w)))
    (HC : Hid (∀ w, Calls Try.prog 16 #[.int .i64 a, .int .i64 b] w (RetI c true w)))
    (hb : (b == 0) = false) (hL : wrap64 (a - wrap64 (f * b)) = 0) (h0 : 0 < b) (hc : c = f) :
    Calls Try.prog 4 #[.int .i64 a, .int .i64 b] w fun e w' => e = .returned (.bool true) ∧ Below w.heap.size w w' := by
  subst hc
  go_enter Try.func4, Try.ntmps4
  go_wp2_with fail
  refine (HA.out _).mono ?_; rintro e v0 ⟨rfl, hb0⟩
  have bl0 := hb0
  have bl1 := bl0
  go_wp2_with fail
  refine (HF.out _).mono ?_; rintro e v2 ⟨rfl, hb2⟩
  have bl2 := bl_step bl1 hb2
  go_wp2_with fail
  refine (HC.out _).mono ?_; rintro e v3 ⟨rfl, hb3⟩
  have bl3 := bl_step bl2 hb3
  go_wp2_with fail
  refine (wakes_any _).mono ?_; rintro e v4 ⟨rfl, hb4⟩
  have bl4 := bl_step bl3 hb4
  go_wp2
  go_ret
  refine ⟨?_, bl4⟩
  first
  | rfl
  | (show Ending.returned (.bool (L != 0)) = .returned (.bool true); simp; omega)
set_option maxHeartbeats 6400000 in
set_option maxRecDepth 100000 in
theorem Back_p_even1 (a b s f c L : Int) (w : World)
    (HA : Hid (∀ w, Calls Try.prog 13 #[.int .i64 a, .int .i64 b] w (RetI s true w)))
    (HS : Hid (∀ w, Calls Try.prog 14 #[.int .i64 s, .int .i64 b] w (RetI a true w)))
    (HF : Hid (∀ w, Calls Try.prog 15 #[.int .i64 a, .int .i64 b] w (RetI f true w)))
    (HC : Hid (∀ w, Calls Try.prog 16 #[.int .i64 a, .int .i64 b] w (RetI c true w)))
    (hb : (b == 0) = false) (hL : wrap64 (a - wrap64 (f * b)) = 0) (h0 : 0 < b) (hc : c = f) :
    Calls Try.prog 4 #[.int .i64 a, .int .i64 b] w fun e w' => e = .returned (.bool true) ∧ Below w.heap.size w w' := by
  subst hc
  go_enter Try.func4, Try.ntmps4
  go_wp2_with fail
  refine (HA.out _).mono ?_; rintro e v0 ⟨rfl, hb0⟩
  have bl0 := hb0
  go_wp2_with fail
  refine (HS.out _).mono ?_; rintro e v1 ⟨rfl, hb1⟩
  have bl1 := bl_step bl0 hb1
  go_wp2_with fail
  refine (HF.out _).mono ?_; rintro e v2 ⟨rfl, hb2⟩
  have bl2 := bl_step bl1 hb2
  go_wp2_with fail
  refine (HC.out _).mono ?_; rintro e v3 ⟨rfl, hb3⟩
  have bl3 := bl_step bl2 hb3
  go_wp2_with fail
  refine (wakes_any _).mono ?_; rintro e v4 ⟨rfl, hb4⟩
  have bl4 := bl_step bl3 hb4
  go_wp2
  go_ret
  refine ⟨?_, bl4⟩
  first
  | rfl
  | (show Ending.returned (.bool (L != 0)) = .returned (.bool true); simp; omega)
set_option maxHeartbeats 6400000 in
set_option maxRecDepth 100000 in
theorem Back_p_odd0 (a b s f c L : Int) (w : World)
    (HA : Hid (∀ w, Calls Try.prog 13 #[.int .i64 a, .int .i64 b] w (RetI s false w)))
    (HF : Hid (∀ w, Calls Try.prog 15 #[.int .i64 a, .int .i64 b] w (RetI f true w)))
    (HC : Hid (∀ w, Calls Try.prog 16 #[.int .i64 a, .int .i64 b] w (RetI c true w)))
    (hb : (b == 0) = false) (hL : wrap64 (a - wrap64 (f * b)) = L) (h0 : 0 < b) (h1 : 0 < L) (h2 : L < b) (hl : (L == 0) = false) (hc : c = f + 1) (hw : wrap64 (f + 1) = f + 1) :
    Calls Try.prog 4 #[.int .i64 a, .int .i64 b] w fun e w' => e = .returned (.bool true) ∧ Below w.heap.size w w' := by
  subst hc
  go_enter Try.func4, Try.ntmps4
  go_wp2_with fail
  refine (HA.out _).mono ?_; rintro e v0 ⟨rfl, hb0⟩
  have bl0 := hb0
  have bl1 := bl0
  go_wp2_with fail
  refine (HF.out _).mono ?_; rintro e v2 ⟨rfl, hb2⟩
  have bl2 := bl_step bl1 hb2
  go_wp2_with fail
  refine (HC.out _).mono ?_; rintro e v3 ⟨rfl, hb3⟩
  have bl3 := bl_step bl2 hb3
  go_wp2_with fail
  refine (wakes_any _).mono ?_; rintro e v4 ⟨rfl, hb4⟩
  have bl4 := bl_step bl3 hb4
  go_wp2
  go_ret
  refine ⟨?_, bl4⟩
  first
  | rfl
  | (show Ending.returned (.bool (L != 0)) = .returned (.bool true); simp; omega)
set_option maxHeartbeats 6400000 in
set_option maxRecDepth 100000 in
theorem Back_p_odd1 (a b s f c L : Int) (w : World)
    (HA : Hid (∀ w, Calls Try.prog 13 #[.int .i64 a, .int .i64 b] w (RetI s true w)))
    (HS : Hid (∀ w, Calls Try.prog 14 #[.int .i64 s, .int .i64 b] w (RetI a true w)))
    (HF : Hid (∀ w, Calls Try.prog 15 #[.int .i64 a, .int .i64 b] w (RetI f true w)))
    (HC : Hid (∀ w, Calls Try.prog 16 #[.int .i64 a, .int .i64 b] w (RetI c true w)))
    (hb : (b == 0) = false) (hL : wrap64 (a - wrap64 (f * b)) = L) (h0 : 0 < b) (h1 : 0 < L) (h2 : L < b) (hl : (L == 0) = false) (hc : c = f + 1) (hw : wrap64 (f + 1) = f + 1) :
    Calls Try.prog 4 #[.int .i64 a, .int .i64 b] w fun e w' => e = .returned (.bool true) ∧ Below w.heap.size w w' := by
  subst hc
  go_enter Try.func4, Try.ntmps4
  go_wp2_with fail
  refine (HA.out _).mono ?_; rintro e v0 ⟨rfl, hb0⟩
  have bl0 := hb0
  go_wp2_with fail
  refine (HS.out _).mono ?_; rintro e v1 ⟨rfl, hb1⟩
  have bl1 := bl_step bl0 hb1
  go_wp2_with fail
  refine (HF.out _).mono ?_; rintro e v2 ⟨rfl, hb2⟩
  have bl2 := bl_step bl1 hb2
  go_wp2_with fail
  refine (HC.out _).mono ?_; rintro e v3 ⟨rfl, hb3⟩
  have bl3 := bl_step bl2 hb3
  go_wp2_with fail
  refine (wakes_any _).mono ?_; rintro e v4 ⟨rfl, hb4⟩
  have bl4 := bl_step bl3 hb4
  go_wp2
  go_ret
  refine ⟨?_, bl4⟩
  first
  | rfl
  | (show Ending.returned (.bool (L != 0)) = .returned (.bool true); simp; omega)
set_option maxHeartbeats 6400000 in
set_option maxRecDepth 100000 in
theorem Back_n_even0 (a b s f c L : Int) (w : World)
    (HA : Hid (∀ w, Calls Try.prog 13 #[.int .i64 a, .int .i64 b] w (RetI s false w)))
    (HF : Hid (∀ w, Calls Try.prog 15 #[.int .i64 a, .int .i64 b] w (RetI f true w)))
    (HC : Hid (∀ w, Calls Try.prog 16 #[.int .i64 a, .int .i64 b] w (RetI c true w)))
    (hb : (b == 0) = false) (hL : wrap64 (a - wrap64 (f * b)) = 0) (h0 : b < 0) (hc : c = f) :
    Calls Try.prog 4 #[.int .i64 a, .int .i64 b] w fun e w' => e = .returned (.bool true) ∧ Below w.heap.size w w' := by
  subst hc
  go_enter Try.func4, Try.ntmps4
  go_wp2_with fail
  refine (HA.out _).mono ?_; rintro e v0 ⟨rfl, hb0⟩
  have bl0 := hb0
  have bl1 := bl0
  go_wp2_with fail
  refine (HF.out _).mono ?_; rintro e v2 ⟨rfl, hb2⟩
  have bl2 := bl_step bl1 hb2
  go_wp2_with fail
  refine (HC.out _).mono ?_; rintro e v3 ⟨rfl, hb3⟩
  have bl3 := bl_step bl2 hb3
  go_wp2_with fail
  refine (wakes_any _).mono ?_; rintro e v4 ⟨rfl, hb4⟩
  have bl4 := bl_step bl3 hb4
  go_wp2
  go_ret
  refine ⟨?_, bl4⟩
  first
  | rfl
  | (show Ending.returned (.bool (L != 0)) = .returned (.bool true); simp; omega)
set_option maxHeartbeats 6400000 in
set_option maxRecDepth 100000 in
theorem Back_n_even1 (a b s f c L : Int) (w : World)
    (HA : Hid (∀ w, Calls Try.prog 13 #[.int .i64 a, .int .i64 b] w (RetI s true w)))
    (HS : Hid (∀ w, Calls Try.prog 14 #[.int .i64 s, .int .i64 b] w (RetI a true w)))
    (HF : Hid (∀ w, Calls Try.prog 15 #[.int .i64 a, .int .i64 b] w (RetI f true w)))
    (HC : Hid (∀ w, Calls Try.prog 16 #[.int .i64 a, .int .i64 b] w (RetI c true w)))
    (hb : (b == 0) = false) (hL : wrap64 (a - wrap64 (f * b)) = 0) (h0 : b < 0) (hc : c = f) :
    Calls Try.prog 4 #[.int .i64 a, .int .i64 b] w fun e w' => e = .returned (.bool true) ∧ Below w.heap.size w w' := by
  subst hc
  go_enter Try.func4, Try.ntmps4
  go_wp2_with fail
  refine (HA.out _).mono ?_; rintro e v0 ⟨rfl, hb0⟩
  have bl0 := hb0
  go_wp2_with fail
  refine (HS.out _).mono ?_; rintro e v1 ⟨rfl, hb1⟩
  have bl1 := bl_step bl0 hb1
  go_wp2_with fail
  refine (HF.out _).mono ?_; rintro e v2 ⟨rfl, hb2⟩
  have bl2 := bl_step bl1 hb2
  go_wp2_with fail
  refine (HC.out _).mono ?_; rintro e v3 ⟨rfl, hb3⟩
  have bl3 := bl_step bl2 hb3
  go_wp2_with fail
  refine (wakes_any _).mono ?_; rintro e v4 ⟨rfl, hb4⟩
  have bl4 := bl_step bl3 hb4
  go_wp2
  go_ret
  refine ⟨?_, bl4⟩
  first
  | rfl
  | (show Ending.returned (.bool (L != 0)) = .returned (.bool true); simp; omega)
set_option maxHeartbeats 6400000 in
set_option maxRecDepth 100000 in
theorem Back_n_odd0 (a b s f c L : Int) (w : World)
    (HA : Hid (∀ w, Calls Try.prog 13 #[.int .i64 a, .int .i64 b] w (RetI s false w)))
    (HF : Hid (∀ w, Calls Try.prog 15 #[.int .i64 a, .int .i64 b] w (RetI f true w)))
    (HC : Hid (∀ w, Calls Try.prog 16 #[.int .i64 a, .int .i64 b] w (RetI c true w)))
    (hb : (b == 0) = false) (hL : wrap64 (a - wrap64 (f * b)) = L) (h0 : b < 0) (h1 : b < L) (h2 : L < 0) (hl : (L == 0) = false) (hc : c = f + 1) (hw : wrap64 (f + 1) = f + 1) :
    Calls Try.prog 4 #[.int .i64 a, .int .i64 b] w fun e w' => e = .returned (.bool true) ∧ Below w.heap.size w w' := by
  subst hc
  go_enter Try.func4, Try.ntmps4
  go_wp2_with fail
  refine (HA.out _).mono ?_; rintro e v0 ⟨rfl, hb0⟩
  have bl0 := hb0
  have bl1 := bl0
  go_wp2_with fail
  refine (HF.out _).mono ?_; rintro e v2 ⟨rfl, hb2⟩
  have bl2 := bl_step bl1 hb2
  go_wp2_with fail
  refine (HC.out _).mono ?_; rintro e v3 ⟨rfl, hb3⟩
  have bl3 := bl_step bl2 hb3
  go_wp2_with fail
  refine (wakes_any _).mono ?_; rintro e v4 ⟨rfl, hb4⟩
  have bl4 := bl_step bl3 hb4
  go_wp2
  go_ret
  refine ⟨?_, bl4⟩
  first
  | rfl
  | (show Ending.returned (.bool (L != 0)) = .returned (.bool true); simp; omega)
set_option maxHeartbeats 6400000 in
set_option maxRecDepth 100000 in
theorem Back_n_odd1 (a b s f c L : Int) (w : World)
    (HA : Hid (∀ w, Calls Try.prog 13 #[.int .i64 a, .int .i64 b] w (RetI s true w)))
    (HS : Hid (∀ w, Calls Try.prog 14 #[.int .i64 s, .int .i64 b] w (RetI a true w)))
    (HF : Hid (∀ w, Calls Try.prog 15 #[.int .i64 a, .int .i64 b] w (RetI f true w)))
    (HC : Hid (∀ w, Calls Try.prog 16 #[.int .i64 a, .int .i64 b] w (RetI c true w)))
    (hb : (b == 0) = false) (hL : wrap64 (a - wrap64 (f * b)) = L) (h0 : b < 0) (h1 : b < L) (h2 : L < 0) (hl : (L == 0) = false) (hc : c = f + 1) (hw : wrap64 (f + 1) = f + 1) :
    Calls Try.prog 4 #[.int .i64 a, .int .i64 b] w fun e w' => e = .returned (.bool true) ∧ Below w.heap.size w w' := by
  subst hc
  go_enter Try.func4, Try.ntmps4
  go_wp2_with fail
  refine (HA.out _).mono ?_; rintro e v0 ⟨rfl, hb0⟩
  have bl0 := hb0
  go_wp2_with fail
  refine (HS.out _).mono ?_; rintro e v1 ⟨rfl, hb1⟩
  have bl1 := bl_step bl0 hb1
  go_wp2_with fail
  refine (HF.out _).mono ?_; rintro e v2 ⟨rfl, hb2⟩
  have bl2 := bl_step bl1 hb2
  go_wp2_with fail
  refine (HC.out _).mono ?_; rintro e v3 ⟨rfl, hb3⟩
  have bl3 := bl_step bl2 hb3
  go_wp2_with fail
  refine (wakes_any _).mono ?_; rintro e v4 ⟨rfl, hb4⟩
  have bl4 := bl_step bl3 hb4
  go_wp2
  go_ret
  refine ⟨?_, bl4⟩
  first
  | rfl
  | (show Ending.returned (.bool (L != 0)) = .returned (.bool true); simp; omega)
set_option maxHeartbeats 6400000 in
set_option maxRecDepth 100000 in
theorem Back_zero0 (a b s f c L : Int) (w : World)
    (HA : Hid (∀ w, Calls Try.prog 13 #[.int .i64 a, .int .i64 b] w (RetI s false w)))
    (HF : Hid (∀ w, Calls Try.prog 15 #[.int .i64 a, .int .i64 b] w (RetI f false w)))
    (HC : Hid (∀ w, Calls Try.prog 16 #[.int .i64 a, .int .i64 b] w (RetI c false w)))
    (hz : b = 0) :
    Calls Try.prog 4 #[.int .i64 a, .int .i64 b] w fun e w' => e = .returned (.bool true) ∧ Below w.heap.size w w' := by
  subst hz
  go_enter Try.func4, Try.ntmps4
  go_wp2_with fail
  refine (HA.out _).mono ?_; rintro e v0 ⟨rfl, hb0⟩
  have bl0 := hb0
  have bl1 := bl0
  go_wp2_with fail
  refine (HF.out _).mono ?_; rintro e v2 ⟨rfl, hb2⟩
  have bl2 := bl_step bl1 hb2
  go_wp2_with fail
  refine (HC.out _).mono ?_; rintro e v3 ⟨rfl, hb3⟩
  have bl3 := bl_step bl2 hb3
  go_wp2_with fail
  refine (wakes_any _).mono ?_; rintro e v4 ⟨rfl, hb4⟩
  have bl4 := bl_step bl3 hb4
  go_wp2
  go_ret
  refine ⟨?_, bl4⟩
  first
  | rfl
  | (show Ending.returned (.bool (L != 0)) = .returned (.bool true); simp; omega)
set_option maxHeartbeats 6400000 in
set_option maxRecDepth 100000 in
theorem Back_zero1 (a b s f c L : Int) (w : World)
    (HA : Hid (∀ w, Calls Try.prog 13 #[.int .i64 a, .int .i64 b] w (RetI s true w)))
    (HS : Hid (∀ w, Calls Try.prog 14 #[.int .i64 s, .int .i64 b] w (RetI a true w)))
    (HF : Hid (∀ w, Calls Try.prog 15 #[.int .i64 a, .int .i64 b] w (RetI f false w)))
    (HC : Hid (∀ w, Calls Try.prog 16 #[.int .i64 a, .int .i64 b] w (RetI c false w)))
    (hz : b = 0) :
    Calls Try.prog 4 #[.int .i64 a, .int .i64 b] w fun e w' => e = .returned (.bool true) ∧ Below w.heap.size w w' := by
  subst hz
  go_enter Try.func4, Try.ntmps4
  go_wp2_with fail
  refine (HA.out _).mono ?_; rintro e v0 ⟨rfl, hb0⟩
  have bl0 := hb0
  go_wp2_with fail
  refine (HS.out _).mono ?_; rintro e v1 ⟨rfl, hb1⟩
  have bl1 := bl_step bl0 hb1
  go_wp2_with fail
  refine (HF.out _).mono ?_; rintro e v2 ⟨rfl, hb2⟩
  have bl2 := bl_step bl1 hb2
  go_wp2_with fail
  refine (HC.out _).mono ?_; rintro e v3 ⟨rfl, hb3⟩
  have bl3 := bl_step bl2 hb3
  go_wp2_with fail
  refine (wakes_any _).mono ?_; rintro e v4 ⟨rfl, hb4⟩
  have bl4 := bl_step bl3 hb4
  go_wp2
  go_ret
  refine ⟨?_, bl4⟩
  first
  | rfl
  | (show Ending.returned (.bool (L != 0)) = .returned (.bool true); simp; omega)
set_option maxHeartbeats 6400000 in
set_option maxRecDepth 100000 in
theorem Back_out0 (a b s f c L : Int) (w : World)
    (HA : Hid (∀ w, Calls Try.prog 13 #[.int .i64 a, .int .i64 b] w (RetI s false w)))
    (HF : Hid (∀ w, Calls Try.prog 15 #[.int .i64 a, .int .i64 b] w (RetI f false w)))
    (HC : Hid (∀ w, Calls Try.prog 16 #[.int .i64 a, .int .i64 b] w (RetI c false w)))
    (ha : a = -9223372036854775808) (hz : b = -1) :
    Calls Try.prog 4 #[.int .i64 a, .int .i64 b] w fun e w' => e = .returned (.bool true) ∧ Below w.heap.size w w' := by
  subst ha
  subst hz
  go_enter Try.func4, Try.ntmps4
  go_wp2_with fail
  refine (HA.out _).mono ?_; rintro e v0 ⟨rfl, hb0⟩
  have bl0 := hb0
  have bl1 := bl0
  go_wp2_with fail
  refine (HF.out _).mono ?_; rintro e v2 ⟨rfl, hb2⟩
  have bl2 := bl_step bl1 hb2
  go_wp2_with fail
  refine (HC.out _).mono ?_; rintro e v3 ⟨rfl, hb3⟩
  have bl3 := bl_step bl2 hb3
  go_wp2_with fail
  refine (wakes_any _).mono ?_; rintro e v4 ⟨rfl, hb4⟩
  have bl4 := bl_step bl3 hb4
  go_wp2
  go_ret
  refine ⟨?_, bl4⟩
  first
  | rfl
  | (show Ending.returned (.bool (L != 0)) = .returned (.bool true); simp; omega)
set_option maxHeartbeats 6400000 in
set_option maxRecDepth 100000 in
theorem Back_out1 (a b s f c L : Int) (w : World)
    (HA : Hid (∀ w, Calls Try.prog 13 #[.int .i64 a, .int .i64 b] w (RetI s true w)))
    (HS : Hid (∀ w, Calls Try.prog 14 #[.int .i64 s, .int .i64 b] w (RetI a true w)))
    (HF : Hid (∀ w, Calls Try.prog 15 #[.int .i64 a, .int .i64 b] w (RetI f false w)))
    (HC : Hid (∀ w, Calls Try.prog 16 #[.int .i64 a, .int .i64 b] w (RetI c false w)))
    (ha : a = -9223372036854775808) (hz : b = -1) :
    Calls Try.prog 4 #[.int .i64 a, .int .i64 b] w fun e w' => e = .returned (.bool true) ∧ Below w.heap.size w w' := by
  subst ha
  subst hz
  go_enter Try.func4, Try.ntmps4
  go_wp2_with fail
  refine (HA.out _).mono ?_; rintro e v0 ⟨rfl, hb0⟩
  have bl0 := hb0
  go_wp2_with fail
  refine (HS.out _).mono ?_; rintro e v1 ⟨rfl, hb1⟩
  have bl1 := bl_step bl0 hb1
  go_wp2_with fail
  refine (HF.out _).mono ?_; rintro e v2 ⟨rfl, hb2⟩
  have bl2 := bl_step bl1 hb2
  go_wp2_with fail
  refine (HC.out _).mono ?_; rintro e v3 ⟨rfl, hb3⟩
  have bl3 := bl_step bl2 hb3
  go_wp2_with fail
  refine (wakes_any _).mono ?_; rintro e v4 ⟨rfl, hb4⟩
  have bl4 := bl_step bl3 hb4
  go_wp2
  go_ret
  refine ⟨?_, bl4⟩
  first
  | rfl
  | (show Ending.returned (.bool (L != 0)) = .returned (.bool true); simp; omega)
theorem NumBack_walk (a b : Int) (w : World) (ia : InI a) (ib : InI b) :
    Calls Try.prog 4 #[.int .i64 a, .int .i64 b] w fun e w' => e = .returned (.bool true) ∧ Below w.heap.size w w' := by
  by_cases ht : InI (a + b)
  · skip
    have HA : Hid (∀ w, Calls Try.prog 13 #[.int .i64 a, .int .i64 b] w (RetI (fitN (a + b)) true w)) := by
      intro w
      have := Add_any a b w ia ib
      rw [show fitB (a + b) = true from decide_eq_true ht] at this
      exact this
    have HS : Hid (∀ w, Calls Try.prog 14 #[.int .i64 (fitN (a + b)), .int .i64 b] w (RetI a true w)) := by
      intro w
      rw [show fitN (a + b) = a + b from if_pos ht]
      have := Sub_any (a + b) b w ht ib
      rw [show a + b + -b = a by omega, show fitN a = a from if_pos ia, show fitB a = true from decide_eq_true ia] at this
      exact this
    by_cases hb0 : b = 0
    · subst hb0
      exact Back_zero1 a 0 (fitN (a + 0)) 0 0 0 w HA HS (Lib.hid (fun w => Floor_zero a w)) (Lib.hid (fun w => Ceil_zero a w)) rfl
    · have HF0 := fun w => Floor_any a b w ia ib hb0
      have HC0 := fun w => Ceil_any a b w ia ib hb0
      by_cases hx : a = -9223372036854775808 ∧ b = -1
      · obtain ⟨rfl, rfl⟩ := hx
        rw [(quo_out 0).2] at HF0
        rw [(quo_out 0).1] at HC0
        exact Back_out1 _ _ _ 0 0 0 w HA HS (Lib.hid HF0) (Lib.hid HC0) rfl rfl
      · have iF := quo_in a b ia ib hb0 hx false
        have iC := quo_in a b ia ib hb0 hx true
        obtain ⟨q1, q2, q3, q4⟩ := quo_laws a b hb0
        simp only [show fitN (quoR a b false) = quoR a b false from if_pos iF, show fitB (quoR a b false) = true from decide_eq_true iF] at HF0
        simp only [show fitN (quoR a b true) = quoR a b true from if_pos iC, show fitB (quoR a b true) = true from decide_eq_true iC] at HC0
        have hbb : (b == 0) = false := by simpa using hb0
        generalize quoR a b false = f at *
        generalize quoR a b true = c at *
        have hL : wrap64 (a - wrap64 (f * b)) = a - f * b := by
          obtain ⟨b1, b2⟩ := ib
          generalize f * b = z at q1 q2 q3 q4 ⊢
          unfold wrap64
          by_cases hp : 0 < b
          · have := q1 hp; omega
          · have := q2 (by omega); omega
        by_cases hz : a - f * b = 0
        · have hc := q3 hz
          rw [hz] at hL
          by_cases hp : 0 < b
          · exact Back_p_even1 a b _ f c 0 w HA HS (Lib.hid HF0) (Lib.hid HC0) hbb hL hp hc
          · exact Back_n_even1 a b _ f c 0 w HA HS (Lib.hid HF0) (Lib.hid HC0) hbb hL (by omega) hc
        · have hc := q4 hz
          have hw : wrap64 (f + 1) = f + 1 := by rw [← hc]; obtain ⟨z1, z2⟩ := iC; unfold wrap64; omega
          by_cases hp : 0 < b
          · have := q1 hp
            exact Back_p_odd1 a b _ f c _ w HA HS (Lib.hid HF0) (Lib.hid HC0) hbb hL hp (by omega) (by omega) (by simpa using hz) hc hw
          · have := q2 (by omega)
            exact Back_n_odd1 a b _ f c _ w HA HS (Lib.hid HF0) (Lib.hid HC0) hbb hL (by omega) (by omega) (by omega) (by simpa using hz) hc hw
  · skip
    have HA : Hid (∀ w, Calls Try.prog 13 #[.int .i64 a, .int .i64 b] w (RetI (fitN (a + b)) false w)) := by
      intro w
      have := Add_any a b w ia ib
      rw [show fitB (a + b) = false from decide_eq_false ht] at this
      exact this
    by_cases hb0 : b = 0
    · subst hb0
      exact Back_zero0 a 0 (fitN (a + 0)) 0 0 0 w HA (Lib.hid (fun w => Floor_zero a w)) (Lib.hid (fun w => Ceil_zero a w)) rfl
    · have HF0 := fun w => Floor_any a b w ia ib hb0
      have HC0 := fun w => Ceil_any a b w ia ib hb0
      by_cases hx : a = -9223372036854775808 ∧ b = -1
      · obtain ⟨rfl, rfl⟩ := hx
        rw [(quo_out 0).2] at HF0
        rw [(quo_out 0).1] at HC0
        exact Back_out0 _ _ _ 0 0 0 w HA (Lib.hid HF0) (Lib.hid HC0) rfl rfl
      · have iF := quo_in a b ia ib hb0 hx false
        have iC := quo_in a b ia ib hb0 hx true
        obtain ⟨q1, q2, q3, q4⟩ := quo_laws a b hb0
        simp only [show fitN (quoR a b false) = quoR a b false from if_pos iF, show fitB (quoR a b false) = true from decide_eq_true iF] at HF0
        simp only [show fitN (quoR a b true) = quoR a b true from if_pos iC, show fitB (quoR a b true) = true from decide_eq_true iC] at HC0
        have hbb : (b == 0) = false := by simpa using hb0
        generalize quoR a b false = f at *
        generalize quoR a b true = c at *
        have hL : wrap64 (a - wrap64 (f * b)) = a - f * b := by
          obtain ⟨b1, b2⟩ := ib
          generalize f * b = z at q1 q2 q3 q4 ⊢
          unfold wrap64
          by_cases hp : 0 < b
          · have := q1 hp; omega
          · have := q2 (by omega); omega
        by_cases hz : a - f * b = 0
        · have hc := q3 hz
          rw [hz] at hL
          by_cases hp : 0 < b
          · exact Back_p_even0 a b _ f c 0 w HA (Lib.hid HF0) (Lib.hid HC0) hbb hL hp hc
          · exact Back_n_even0 a b _ f c 0 w HA (Lib.hid HF0) (Lib.hid HC0) hbb hL (by omega) hc
        · have hc := q4 hz
          have hw : wrap64 (f + 1) = f + 1 := by rw [← hc]; obtain ⟨z1, z2⟩ := iC; unfold wrap64; omega
          by_cases hp : 0 < b
          · have := q1 hp
            exact Back_p_odd0 a b _ f c _ w HA (Lib.hid HF0) (Lib.hid HC0) hbb hL hp (by omega) (by omega) (by simpa using hz) hc hw
          · have := q2 (by omega)
            exact Back_n_odd0 a b _ f c _ w HA (Lib.hid HF0) (Lib.hid HC0) hbb hL (by omega) (by omega) (by omega) (by simpa using hz) hc hw
end Go.Proofs.Yteddbdmddgmicaa
