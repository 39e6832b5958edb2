/- step: what one code point does to a scan. -/
import Derived.Test.YtklomjpnmmaogaaDoorLE
namespace Go.Proofs.YtklomjpnmmaogaaDoor
open Go Go.RowKit
set_option linter.unusedVariables false
set_option linter.unusedSimpArgs false
set_option maxRecDepth 100000

section
variable {w0 w : World} {g k b p : Nat} {s : ByteArray} {R : Value} {l : List Tok} {line col al ac : Nat} {rem : Bool}
/-- Does the text go on with the three bytes that stand for a fault? -/
def subB (s : ByteArray) (i : Nat) : Bool := Lib.hasPrefix (s.extract i s.size).data.toList [239, 191, 189]
theorem has_c (i : Nat) (w : World) : Calls Tryd.prog 73 #[.string (s.extract i s.size), .string ⟨#[239, 191, 189]⟩] w fun e w' => e = .returned (.bool (subB s i)) ∧ w' = w := Tryd.strings_HasPrefix (s.extract i s.size) ⟨#[239, 191, 189]⟩ w
set_option maxHeartbeats 1600000 in
theorem step_bad (i : Nat) (hi : i < s.size) (hs : s.size ≤ 281474976710656) (hS : Sc w0 w g k b p s R R l line col (-1) al ac rem) (hq : subB s i = false) : Calls Tryd.prog 51 #[.pointer (some ⟨g, 0, none⟩), .int .i64 i, .int .i32 65533] w fun e w' => e = .returned (.int .i64 20) ∧ w' = w := by
  have i0 : (0 : Int) ≤ i := by omega
  have i1 : (i : Int) ≤ s.size := by omega
  have c0 : w.cell? ⟨g, 0, none⟩ = some (.string s) := (hS.c 0).trans rfl
  have c1 : w.cell? ⟨g, 1, none⟩ = some R := (hS.c 1).trans rfl
  have c2 : w.cell? ⟨g, 2, none⟩ = some (.int .i64 line) := (hS.c 2).trans rfl
  have c3 : w.cell? ⟨g, 3, none⟩ = some (.int .i64 col) := (hS.c 3).trans rfl
  have c4 : w.cell? ⟨g, 4, none⟩ = some (.int .i64 (-1)) := (hS.c 4).trans rfl
  have c5 : w.cell? ⟨g, 5, none⟩ = some (.int .i64 al) := (hS.c 5).trans rfl
  have c6 : w.cell? ⟨g, 6, none⟩ = some (.int .i64 ac) := (hS.c 6).trans rfl
  have c7 : w.cell? ⟨g, 7, none⟩ = some (.bool rem) := (hS.c 7).trans rfl
  have f4 := hS.f 4
  have f5 := hS.f 5
  have f6 := hS.f 6
  have f7 := hS.f 7
  have z := hS.box.lt
  have HH := Lib.hid (fun w => has_c (s := s) i w)
  rw [hq] at HH
  clear hq hS
  go_enter Tryd.func51, Tryd.ntmps51
  go_wp2_with fail
  refine (HH.out _).mono ?_; rintro e v ⟨rfl, rfl⟩
  go_wp2_with fail
  go_ret
  exact ⟨rfl, rfl⟩
set_option maxHeartbeats 1600000 in
theorem step_feed (i : Nat) (hi : i < s.size) (hs : s.size ≤ 281474976710656) (hS : Sc w0 w g k b p s R R l line col (-1) al ac rem)  : Calls Tryd.prog 51 #[.pointer (some ⟨g, 0, none⟩), .int .i64 i, .int .i32 10] w fun e w' => e = .returned (.int .i64 0) ∧ Sc w0 w' g k b p s R R l line col (-1) al ac false := by
  have i0 : (0 : Int) ≤ i := by omega
  have i1 : (i : Int) ≤ s.size := by omega
  have c0 : w.cell? ⟨g, 0, none⟩ = some (.string s) := (hS.c 0).trans rfl
  have c1 : w.cell? ⟨g, 1, none⟩ = some R := (hS.c 1).trans rfl
  have c2 : w.cell? ⟨g, 2, none⟩ = some (.int .i64 line) := (hS.c 2).trans rfl
  have c3 : w.cell? ⟨g, 3, none⟩ = some (.int .i64 col) := (hS.c 3).trans rfl
  have c4 : w.cell? ⟨g, 4, none⟩ = some (.int .i64 (-1)) := (hS.c 4).trans rfl
  have c5 : w.cell? ⟨g, 5, none⟩ = some (.int .i64 al) := (hS.c 5).trans rfl
  have c6 : w.cell? ⟨g, 6, none⟩ = some (.int .i64 ac) := (hS.c 6).trans rfl
  have c7 : w.cell? ⟨g, 7, none⟩ = some (.bool rem) := (hS.c 7).trans rfl
  have f4 := hS.f 4
  have f5 := hS.f 5
  have f6 := hS.f 6
  have f7 := hS.f 7
  have z := hS.box.lt
  go_enter Tryd.func51, Tryd.ntmps51
  go_wp2_with fail
  go_ret
  exact ⟨rfl, hS.put 7 _ rfl⟩
set_option maxHeartbeats 1600000 in
theorem step_rem (i : Nat) (hi : i < s.size) (hs : s.size ≤ 281474976710656) (hS : Sc w0 w g k b p s R R l line col (-1) al ac true) (r : Int) (h10 : ¬ r = 10) (hq : r = 65533 → subB s i = true) : Calls Tryd.prog 51 #[.pointer (some ⟨g, 0, none⟩), .int .i64 i, .int .i32 r] w fun e w' => e = .returned (.int .i64 0) ∧ w' = w := by
  have i0 : (0 : Int) ≤ i := by omega
  have i1 : (i : Int) ≤ s.size := by omega
  have c0 : w.cell? ⟨g, 0, none⟩ = some (.string s) := (hS.c 0).trans rfl
  have c1 : w.cell? ⟨g, 1, none⟩ = some R := (hS.c 1).trans rfl
  have c2 : w.cell? ⟨g, 2, none⟩ = some (.int .i64 line) := (hS.c 2).trans rfl
  have c3 : w.cell? ⟨g, 3, none⟩ = some (.int .i64 col) := (hS.c 3).trans rfl
  have c4 : w.cell? ⟨g, 4, none⟩ = some (.int .i64 (-1)) := (hS.c 4).trans rfl
  have c5 : w.cell? ⟨g, 5, none⟩ = some (.int .i64 al) := (hS.c 5).trans rfl
  have c6 : w.cell? ⟨g, 6, none⟩ = some (.int .i64 ac) := (hS.c 6).trans rfl
  have c7 : w.cell? ⟨g, 7, none⟩ = some (.bool true) := (hS.c 7).trans rfl
  have f4 := hS.f 4
  have f5 := hS.f 5
  have f6 := hS.f 6
  have f7 := hS.f 7
  have z := hS.box.lt
  have HH := Lib.hid (fun w => has_c (s := s) i w)
  by_cases hr : r = 65533
  · rw [hq hr] at HH
    subst hr
    clear hq hS
    go_enter Tryd.func51, Tryd.ntmps51
    go_wp2_with fail
    refine (HH.out _).mono ?_; rintro e v ⟨rfl, rfl⟩
    go_wp2_with fail
    go_ret
    exact ⟨rfl, rfl⟩
  · clear hq hS
    go_enter Tryd.func51, Tryd.ntmps51
    go_wp2_with fail
    go_ret
    exact ⟨rfl, rfl⟩
set_option maxHeartbeats 1600000 in
theorem step_blank (i : Nat) (hi : i < s.size) (hs : s.size ≤ 281474976710656) (hS : Sc w0 w g k b p s R R l line col (-1) al ac false) (r : Int) (h10 : ¬ r = 10) (hr : ¬ r = 65533) (hb : isBlank r = true) : Calls Tryd.prog 51 #[.pointer (some ⟨g, 0, none⟩), .int .i64 i, .int .i32 r] w fun e w' => e = .returned (.int .i64 0) ∧ w' = w := by
  have i0 : (0 : Int) ≤ i := by omega
  have i1 : (i : Int) ≤ s.size := by omega
  have c0 : w.cell? ⟨g, 0, none⟩ = some (.string s) := (hS.c 0).trans rfl
  have c1 : w.cell? ⟨g, 1, none⟩ = some R := (hS.c 1).trans rfl
  have c2 : w.cell? ⟨g, 2, none⟩ = some (.int .i64 line) := (hS.c 2).trans rfl
  have c3 : w.cell? ⟨g, 3, none⟩ = some (.int .i64 col) := (hS.c 3).trans rfl
  have c4 : w.cell? ⟨g, 4, none⟩ = some (.int .i64 (-1)) := (hS.c 4).trans rfl
  have c5 : w.cell? ⟨g, 5, none⟩ = some (.int .i64 al) := (hS.c 5).trans rfl
  have c6 : w.cell? ⟨g, 6, none⟩ = some (.int .i64 ac) := (hS.c 6).trans rfl
  have c7 : w.cell? ⟨g, 7, none⟩ = some (.bool false) := (hS.c 7).trans rfl
  have f4 := hS.f 4
  have f5 := hS.f 5
  have f6 := hS.f 6
  have f7 := hS.f 7
  have z := hS.box.lt
  have HB := Lib.hid (fun w => blank_any r w)
  rw [hb] at HB
  clear hb hS
  go_enter Tryd.func51, Tryd.ntmps51
  go_wp2_with fail
  refine (HB.out _).mono ?_; rintro e v ⟨rfl, rfl⟩
  go_wp2_with fail
  go_ret
  exact ⟨rfl, rfl⟩
set_option maxHeartbeats 1600000 in
theorem step_hash (i : Nat) (hi : i < s.size) (hs : s.size ≤ 281474976710656) (hS : Sc w0 w g k b p s R R l line col (-1) al ac false)  : Calls Tryd.prog 51 #[.pointer (some ⟨g, 0, none⟩), .int .i64 i, .int .i32 35] w fun e w' => e = .returned (.int .i64 0) ∧ Sc w0 w' g k b p s R R l line col (-1) al ac true := by
  have i0 : (0 : Int) ≤ i := by omega
  have i1 : (i : Int) ≤ s.size := by omega
  have c0 : w.cell? ⟨g, 0, none⟩ = some (.string s) := (hS.c 0).trans rfl
  have c1 : w.cell? ⟨g, 1, none⟩ = some R := (hS.c 1).trans rfl
  have c2 : w.cell? ⟨g, 2, none⟩ = some (.int .i64 line) := (hS.c 2).trans rfl
  have c3 : w.cell? ⟨g, 3, none⟩ = some (.int .i64 col) := (hS.c 3).trans rfl
  have c4 : w.cell? ⟨g, 4, none⟩ = some (.int .i64 (-1)) := (hS.c 4).trans rfl
  have c5 : w.cell? ⟨g, 5, none⟩ = some (.int .i64 al) := (hS.c 5).trans rfl
  have c6 : w.cell? ⟨g, 6, none⟩ = some (.int .i64 ac) := (hS.c 6).trans rfl
  have c7 : w.cell? ⟨g, 7, none⟩ = some (.bool false) := (hS.c 7).trans rfl
  have f4 := hS.f 4
  have f5 := hS.f 5
  have f6 := hS.f 6
  have f7 := hS.f 7
  have z := hS.box.lt
  have HB := Lib.hid (fun w => blank_any 35 w)
  go_enter Tryd.func51, Tryd.ntmps51
  go_wp2_with fail
  refine (HB.out _).mono ?_; rintro e v ⟨rfl, rfl⟩
  go_wp2_with fail
  go_ret
  exact ⟨rfl, hS.put 7 _ rfl⟩
set_option maxHeartbeats 1600000 in
theorem stepS_run (i : Nat) (hi : i < s.size) (hs : s.size ≤ 281474976710656) (hS : Sc w0 w g k b p s R R l line col (-1) al ac false) (r : Int) (h10 : ¬ r = 10) (hr : ¬ r = 65533) (h35 : ¬ r = 35) (hb : isBlank r = false) (hm : isLet r = true ∨ isDig r = true ∨ (decide ((s.get! i).toNat = 45) && headDig (s.data.toList.drop (i + 1))) = true) : Calls Tryd.prog 51 #[.pointer (some ⟨g, 0, none⟩), .int .i64 i, .int .i32 r] w fun e w' => e = .returned (.int .i64 0) ∧ Sc w0 w' g k b p s R R l line col (i : Int) line col false := by
  have i0 : (0 : Int) ≤ i := by omega
  have i1 : (i : Int) ≤ s.size := by omega
  have c0 : w.cell? ⟨g, 0, none⟩ = some (.string s) := (hS.c 0).trans rfl
  have c1 : w.cell? ⟨g, 1, none⟩ = some R := (hS.c 1).trans rfl
  have c2 : w.cell? ⟨g, 2, none⟩ = some (.int .i64 line) := (hS.c 2).trans rfl
  have c3 : w.cell? ⟨g, 3, none⟩ = some (.int .i64 col) := (hS.c 3).trans rfl
  have c4 : w.cell? ⟨g, 4, none⟩ = some (.int .i64 (-1)) := (hS.c 4).trans rfl
  have c5 : w.cell? ⟨g, 5, none⟩ = some (.int .i64 al) := (hS.c 5).trans rfl
  have c6 : w.cell? ⟨g, 6, none⟩ = some (.int .i64 ac) := (hS.c 6).trans rfl
  have c7 : w.cell? ⟨g, 7, none⟩ = some (.bool false) := (hS.c 7).trans rfl
  have f4 := hS.f 4
  have f5 := hS.f 5
  have f6 := hS.f 6
  have f7 := hS.f 7
  have z := hS.box.lt
  have HB := Lib.hid (fun w => blank_any r w)
  have HL := Lib.hid (fun w => letter_any r w)
  have HD := Lib.hid (fun w => digit_any r w)
  have HM := Lib.hid (minus_any i hi hs hS.box)
  rw [hb] at HB
  clear hb
  generalize isLet r = x1 at HL hm
  generalize isDig r = x2 at HD hm
  generalize (decide ((s.get! i).toNat = 45) && headDig (s.data.toList.drop (i + 1))) = x3 at HM hm
  cases x1
  · cases x2
    · obtain rfl : x3 = true := by simpa using hm
      clear hm
      go_enter Tryd.func51, Tryd.ntmps51
      go_wp2_with fail
      refine (HB.out _).mono ?_; rintro e v ⟨rfl, rfl⟩
      go_wp2_with fail
      refine (HL.out _).mono ?_; rintro e v ⟨rfl, rfl⟩
      go_wp2_with fail
      refine (HD.out _).mono ?_; rintro e v ⟨rfl, rfl⟩
      go_wp2_with fail
      refine HM.out.mono ?_; rintro e v ⟨rfl, rfl⟩
      go_wp2_with fail
      go_ret
      exact ⟨rfl, ((hS.put 4 _ rfl).put 5 _ rfl).put 6 _ rfl⟩
    · clear hm HM
      go_enter Tryd.func51, Tryd.ntmps51
      go_wp2_with fail
      refine (HB.out _).mono ?_; rintro e v ⟨rfl, rfl⟩
      go_wp2_with fail
      refine (HL.out _).mono ?_; rintro e v ⟨rfl, rfl⟩
      go_wp2_with fail
      refine (HD.out _).mono ?_; rintro e v ⟨rfl, rfl⟩
      go_wp2_with fail
      go_ret
      exact ⟨rfl, ((hS.put 4 _ rfl).put 5 _ rfl).put 6 _ rfl⟩
  · clear hm HM HD
    go_enter Tryd.func51, Tryd.ntmps51
    go_wp2_with fail
    refine (HB.out _).mono ?_; rintro e v ⟨rfl, rfl⟩
    go_wp2_with fail
    refine (HL.out _).mono ?_; rintro e v ⟨rfl, rfl⟩
    go_wp2_with fail
    go_ret
    exact ⟨rfl, ((hS.put 4 _ rfl).put 5 _ rfl).put 6 _ rfl⟩
set_option maxHeartbeats 1600000 in
theorem step_colon (i : Nat) (hi : i < s.size) (hs : s.size ≤ 281474976710656) (hS : Sc w0 w g k b p s R R l line col (-1) al ac false) (hl : l.length ≤ 2000000) (hm : (decide ((s.get! i).toNat = 45) && headDig (s.data.toList.drop (i + 1))) = false) : Calls Tryd.prog 51 #[.pointer (some ⟨g, 0, none⟩), .int .i64 i, .int .i32 58] w fun e w' => e = .returned (.int .i64 0) ∧ ∃ R2, Sc w0 w' g k b p s R2 R2 (l ++ [⟨2, [58], 0, line, col⟩]) line col (-1) al ac false := by
  have i0 : (0 : Int) ≤ i := by omega
  have i1 : (i : Int) ≤ s.size := by omega
  have c0 : w.cell? ⟨g, 0, none⟩ = some (.string s) := (hS.c 0).trans rfl
  have c1 : w.cell? ⟨g, 1, none⟩ = some R := (hS.c 1).trans rfl
  have c2 : w.cell? ⟨g, 2, none⟩ = some (.int .i64 line) := (hS.c 2).trans rfl
  have c3 : w.cell? ⟨g, 3, none⟩ = some (.int .i64 col) := (hS.c 3).trans rfl
  have c4 : w.cell? ⟨g, 4, none⟩ = some (.int .i64 (-1)) := (hS.c 4).trans rfl
  have c5 : w.cell? ⟨g, 5, none⟩ = some (.int .i64 al) := (hS.c 5).trans rfl
  have c6 : w.cell? ⟨g, 6, none⟩ = some (.int .i64 ac) := (hS.c 6).trans rfl
  have c7 : w.cell? ⟨g, 7, none⟩ = some (.bool false) := (hS.c 7).trans rfl
  have f4 := hS.f 4
  have f5 := hS.f 5
  have f6 := hS.f 6
  have f7 := hS.f 7
  have z := hS.box.lt
  have HB := Lib.hid (fun w => blank_any 58 w)
  have HL := Lib.hid (fun w => letter_any 58 w)
  have HD := Lib.hid (fun w => digit_any 58 w)
  have HM := Lib.hid (minus_any i hi hs hS.box)
  rw [hm] at HM
  clear hm
  go_enter Tryd.func51, Tryd.ntmps51
  go_wp2_with fail
  refine (HB.out _).mono ?_; rintro e v ⟨rfl, rfl⟩
  go_wp2_with fail
  refine (HL.out _).mono ?_; rintro e v ⟨rfl, rfl⟩
  go_wp2_with fail
  refine (HD.out _).mono ?_; rintro e v ⟨rfl, rfl⟩
  go_wp2_with fail
  refine HM.out.mono ?_; rintro e v ⟨rfl, rfl⟩
  go_wp2_with fail
  refine wp_region_pre (S := fun w' => w'.cell? ⟨g, 1, none⟩ = some R ∧ w'.cell? ⟨g, 2, none⟩ = some (.int .i64 line) ∧ w'.cell? ⟨g, 3, none⟩ = some (.int .i64 col)) 12 (by kernel_rfl) (by kernel_rfl) ?_ (fun hH0 => ?_)
  · exact ⟨((hS.below (bl_drew (Below.refl _ _))).c 1).trans rfl, ((hS.below (bl_drew (Below.refl _ _))).c 2).trans rfl, ((hS.below (bl_drew (Below.refl _ _))).c 3).trans rfl⟩
  refine PreG.take (i := 0) (v := ?vv1) rfl (by kernel_rfl) (by kernel_rfl) (fun _ _ _ h => h) (Or.inl ⟨by rfl, ?hy1⟩) (by assumption) ?rest1
  case hy1 => intro w hSw; (try dsimp only at hSw); first | (go_simp; done) | (go_simp; with_reducible rfl)
  try simp only [Act.put, List.getElem_toArray, List.getElem_cons_zero, List.getElem_cons_succ, List.setIfInBounds_toArray, List.set_cons_zero, List.set_cons_succ]
  refine PreG.take (i := 1) (v := ?vv2) rfl (by kernel_rfl) (by kernel_rfl) (fun _ _ _ h => h) (Or.inl ⟨by rfl, ?hy2⟩) (by assumption) ?rest2
  case hy2 => intro w hSw; (try dsimp only at hSw); first | (go_simp; done) | (go_simp; with_reducible rfl)
  try simp only [Act.put, List.getElem_toArray, List.getElem_cons_zero, List.getElem_cons_succ, List.setIfInBounds_toArray, List.set_cons_zero, List.set_cons_succ]
  refine PreG.take (i := 2) (v := ?vv3) rfl (by kernel_rfl) (by kernel_rfl) (fun _ _ _ h => h) (Or.inl ⟨by rfl, ?hy3⟩) (by assumption) ?rest3
  case hy3 => intro w hSw; (try dsimp only at hSw); first | (go_simp; done) | (go_simp; with_reducible rfl)
  try simp only [Act.put, List.getElem_toArray, List.getElem_cons_zero, List.getElem_cons_succ, List.setIfInBounds_toArray, List.set_cons_zero, List.set_cons_succ]
  refine PreG.take (i := 3) (v := ?vv4) rfl (by kernel_rfl) (by kernel_rfl) (fun _ _ _ h => h) (Or.inl ⟨by rfl, ?hy4⟩) (by assumption) ?rest4
  case hy4 => intro w hSw; (try dsimp only at hSw); first | (go_simp; done) | (go_simp; with_reducible rfl)
  try simp only [Act.put, List.getElem_toArray, List.getElem_cons_zero, List.getElem_cons_succ, List.setIfInBounds_toArray, List.set_cons_zero, List.set_cons_succ]
  refine PreG.take (i := 4) (v := ?vv5) rfl (by kernel_rfl) (by kernel_rfl) (fun _ _ _ h => h) (Or.inl ⟨by rfl, ?hy5⟩) (by assumption) ?rest5
  case hy5 => intro w hSw; (try dsimp only at hSw); first | (go_simp; done) | (go_simp; with_reducible rfl)
  try simp only [Act.put, List.getElem_toArray, List.getElem_cons_zero, List.getElem_cons_succ, List.setIfInBounds_toArray, List.set_cons_zero, List.set_cons_succ]
  refine PreG.take (i := 5) (v := ?vv6) rfl (by kernel_rfl) (by kernel_rfl) (fun _ _ _ h => h) (Or.inl ⟨by rfl, ?hy6⟩) (by assumption) ?rest6
  case hy6 => intro w hSw; (try dsimp only at hSw); first | (go_simp; done) | (go_simp; with_reducible rfl)
  try simp only [Act.put, List.getElem_toArray, List.getElem_cons_zero, List.getElem_cons_succ, List.setIfInBounds_toArray, List.set_cons_zero, List.set_cons_succ]
  refine PreG.take (i := 6) (v := ?vv7) rfl (by kernel_rfl) (by kernel_rfl) (fun _ _ _ h => h) (Or.inl ⟨by rfl, ?hy7⟩) (by assumption) ?rest7
  case hy7 => intro w hSw; (try dsimp only at hSw); first | (go_simp; done) | (go_simp; with_reducible rfl)
  try simp only [Act.put, List.getElem_toArray, List.getElem_cons_zero, List.getElem_cons_succ, List.setIfInBounds_toArray, List.set_cons_zero, List.set_cons_succ]
  refine PreG.take (i := 7) (v := ?vv8) rfl (by kernel_rfl) (by kernel_rfl) (fun _ _ _ h => h) (Or.inl ⟨by rfl, ?hy8⟩) (by assumption) ?rest8
  case hy8 => intro w hSw; (try dsimp only at hSw); first | (go_simp; done) | (go_simp; with_reducible rfl)
  try simp only [Act.put, List.getElem_toArray, List.getElem_cons_zero, List.getElem_cons_succ, List.setIfInBounds_toArray, List.set_cons_zero, List.set_cons_succ]
  refine PreG.take (i := 8) (v := ?vv9) rfl (by kernel_rfl) (by kernel_rfl) (fun _ _ _ h => h) (Or.inl ⟨by rfl, ?hy9⟩) (by assumption) ?rest9
  case hy9 => intro w hSw; (try dsimp only at hSw); first | (go_simp; done) | (go_simp; with_reducible rfl)
  try simp only [Act.put, List.getElem_toArray, List.getElem_cons_zero, List.getElem_cons_succ, List.setIfInBounds_toArray, List.set_cons_zero, List.set_cons_succ]
  refine PreG.take (i := 9) (v := ?vv10) rfl (by kernel_rfl) (by kernel_rfl) (fun _ _ _ h => h) (Or.inl ⟨by rfl, ?hy10⟩) (by assumption) ?rest10
  case hy10 => intro w hSw; (try dsimp only at hSw); first | (go_simp; done) | (go_simp; with_reducible rfl)
  try simp only [Act.put, List.getElem_toArray, List.getElem_cons_zero, List.getElem_cons_succ, List.setIfInBounds_toArray, List.set_cons_zero, List.set_cons_succ]
  refine PreG.ready (rs := [10]) (by kernel_rfl) (by kernel_rfl) ?_
  refine AllPre.cons rfl (fun K hK => ?_) ?_
  · go_simp
    refine hK.out _ _ ?_ (fun hH1 => ?_)
    · exact ⟨(((hS.below (bl_alloc (Below.refl _ _) (.cells #[.int .i64 2, .string ⟨#[58]⟩, .int .i64 0, .int .i64 line, .int .i64 col] 116))).below (bl_drew (Below.refl _ _))).c 1).trans rfl, (((hS.below (bl_alloc (Below.refl _ _) (.cells #[.int .i64 2, .string ⟨#[58]⟩, .int .i64 0, .int .i64 line, .int .i64 col] 116))).below (bl_drew (Below.refl _ _))).c 2).trans rfl, (((hS.below (bl_alloc (Below.refl _ _) (.cells #[.int .i64 2, .string ⟨#[58]⟩, .int .i64 0, .int .i64 line, .int .i64 col] 116))).below (bl_drew (Below.refl _ _))).c 3).trans rfl⟩
    clear hK K hH0
    try simp only [Act.put, List.getElem_toArray, List.getElem_cons_zero, List.getElem_cons_succ, List.setIfInBounds_toArray, List.set_cons_zero, List.set_cons_succ]
    refine PreG.ready (rs := [11]) (by kernel_rfl) (by kernel_rfl) ?_
    refine AllPre.cons rfl (fun K hK => ?_) ?_
    · have P12 := ((hS.below (bl_alloc (Below.refl _ _) (.cells #[.int .i64 2, .string ⟨#[58]⟩, .int .i64 0, .int .i64 line, .int .i64 col] 116))).below (bl_drew (Below.refl _ _)))
      have N12 : Blk (v.alloc (.cells #[.int .i64 2, .string ⟨#[58]⟩, .int .i64 0, .int .i64 line, .int .i64 col] 116)).drew (v.heap.size) 116 #[.int .i64 2, .string ⟨#[58]⟩, .int .i64 0, .int .i64 line, .int .i64 col] := ((Blk.new _ _ _).below (bl_drew (Below.refl _ _)))
      obtain ⟨D, d, X, hrun, S12, hX⟩ := P12.app hl (x := ⟨2, [58], 0, line, col⟩) N12
      refine step_run rfl _ _ _ rfl hrun ?_
      clear P12 N12 hrun hX
      refine hK.out _ _ ?_ (fun hH2 => ?_)
      · exact ⟨(S12.c 1).trans rfl, (S12.c 2).trans rfl, (S12.c 3).trans rfl⟩
      clear hK K hH1
      try simp only [Act.put, List.getElem_toArray, List.getElem_cons_zero, List.getElem_cons_succ, List.setIfInBounds_toArray, List.set_cons_zero, List.set_cons_succ]
      refine PreG.done (by kernel_rfl) ?_
      simp only [List.drop_succ_cons, List.drop_zero]
      clear hH2
      have z2 := S12.box.lt
      have f1 := S12.f 1
      have d1 : X.cell? ⟨g, 1, none⟩ = some R := (S12.c 1).trans rfl
      go_wp2_with fail
      go_ret
      exact ⟨rfl, _, S12.put 1 _ rfl⟩
    exact AllPre.nil
  exact AllPre.nil
set_option maxHeartbeats 1600000 in
theorem step_none (i : Nat) (hi : i < s.size) (hs : s.size ≤ 281474976710656) (hS : Sc w0 w g k b p s R R l line col (-1) al ac false) (r : Int) (h10 : ¬ r = 10) (h35 : ¬ r = 35) (h58 : ¬ r = 58) (hq : r = 65533 → subB s i = true) (hb : isBlank r = false) (h1 : isLet r = false) (h2 : isDig r = false) (hm : (decide ((s.get! i).toNat = 45) && headDig (s.data.toList.drop (i + 1))) = false) : Calls Tryd.prog 51 #[.pointer (some ⟨g, 0, none⟩), .int .i64 i, .int .i32 r] w fun e w' => e = .returned (.int .i64 20) ∧ w' = w := by
  have i0 : (0 : Int) ≤ i := by omega
  have i1 : (i : Int) ≤ s.size := by omega
  have c0 : w.cell? ⟨g, 0, none⟩ = some (.string s) := (hS.c 0).trans rfl
  have c1 : w.cell? ⟨g, 1, none⟩ = some R := (hS.c 1).trans rfl
  have c2 : w.cell? ⟨g, 2, none⟩ = some (.int .i64 line) := (hS.c 2).trans rfl
  have c3 : w.cell? ⟨g, 3, none⟩ = some (.int .i64 col) := (hS.c 3).trans rfl
  have c4 : w.cell? ⟨g, 4, none⟩ = some (.int .i64 (-1)) := (hS.c 4).trans rfl
  have c5 : w.cell? ⟨g, 5, none⟩ = some (.int .i64 al) := (hS.c 5).trans rfl
  have c6 : w.cell? ⟨g, 6, none⟩ = some (.int .i64 ac) := (hS.c 6).trans rfl
  have c7 : w.cell? ⟨g, 7, none⟩ = some (.bool false) := (hS.c 7).trans rfl
  have f4 := hS.f 4
  have f5 := hS.f 5
  have f6 := hS.f 6
  have f7 := hS.f 7
  have z := hS.box.lt
  have HH := Lib.hid (fun w => has_c (s := s) i w)
  have HB := Lib.hid (fun w => blank_any r w)
  have HL := Lib.hid (fun w => letter_any r w)
  have HD := Lib.hid (fun w => digit_any r w)
  have HM := Lib.hid (minus_any i hi hs hS.box)
  rw [hb] at HB
  rw [h1] at HL
  rw [h2] at HD
  rw [hm] at HM
  clear hb h1 h2 hm
  by_cases hr : r = 65533
  · rw [hq hr] at HH
    subst hr
    clear hq hS
    go_enter Tryd.func51, Tryd.ntmps51
    go_wp2_with fail
    refine (HH.out _).mono ?_; rintro e v ⟨rfl, rfl⟩
    go_wp2_with fail
    refine (HB.out _).mono ?_; rintro e v ⟨rfl, rfl⟩
    go_wp2_with fail
    refine (HL.out _).mono ?_; rintro e v ⟨rfl, rfl⟩
    go_wp2_with fail
    refine (HD.out _).mono ?_; rintro e v ⟨rfl, rfl⟩
    go_wp2_with fail
    refine HM.out.mono ?_; rintro e v ⟨rfl, rfl⟩
    go_wp2_with fail
    go_ret
    exact ⟨rfl, rfl⟩
  · clear hq hS
    go_enter Tryd.func51, Tryd.ntmps51
    go_wp2_with fail
    refine (HB.out _).mono ?_; rintro e v ⟨rfl, rfl⟩
    go_wp2_with fail
    refine (HL.out _).mono ?_; rintro e v ⟨rfl, rfl⟩
    go_wp2_with fail
    refine (HD.out _).mono ?_; rintro e v ⟨rfl, rfl⟩
    go_wp2_with fail
    refine HM.out.mono ?_; rintro e v ⟨rfl, rfl⟩
    go_wp2_with fail
    go_ret
    exact ⟨rfl, rfl⟩
end
end Go.Proofs.YtklomjpnmmaogaaDoor
