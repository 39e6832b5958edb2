/- The document's letters, digits, and code points. -/
import Derived.Test.YtklomjpnmmaogaaDoorLC
import Derived.Test.YtklomjpnmmaogaaDoorLB
namespace Go.Proofs.YtklomjpnmmaogaaDoor
open Go Go.RowKit
set_option linter.unusedVariables false
set_option linter.unusedSimpArgs false
set_option maxRecDepth 100000

theorem rlet_any (c : UInt8) (w : World) : Calls Tryd.prog 55 #[.int .u8 (c.toNat : Int)] w fun e w' => e = .returned (.bool (letB c)) ∧ w' = w := by
  unfold letB
  by_cases h1 : 97 ≤ c.toNat
  · have k1 : (97 : Int) ≤ c.toNat := by omega
    by_cases h2 : c.toNat ≤ 122
    · have k2 : (c.toNat : Int) ≤ 122 := by omega
      go_enter Tryd.func55, Tryd.ntmps55
      go_wp2
      go_ret
      exact ⟨by simp [h1, h2], rfl⟩
    · have k2 : ¬ (c.toNat : Int) ≤ 122 := by omega
      go_enter Tryd.func55, Tryd.ntmps55
      go_wp2
      go_ret
      exact ⟨by simp [h1, h2], rfl⟩
  · have k1 : ¬ (97 : Int) ≤ c.toNat := by omega
    go_enter Tryd.func55, Tryd.ntmps55
    go_wp2
    go_ret
    exact ⟨by simp [h1], rfl⟩
theorem rdig_any (c : UInt8) (w : World) : Calls Tryd.prog 56 #[.int .u8 (c.toNat : Int)] w fun e w' => e = .returned (.bool (digB c)) ∧ w' = w := by
  unfold digB
  by_cases h1 : 48 ≤ c.toNat
  · have k1 : (48 : Int) ≤ c.toNat := by omega
    by_cases h2 : c.toNat ≤ 57
    · have k2 : (c.toNat : Int) ≤ 57 := by omega
      go_enter Tryd.func56, Tryd.ntmps56
      go_wp2
      go_ret
      exact ⟨by simp [h1, h2], rfl⟩
    · have k2 : ¬ (c.toNat : Int) ≤ 57 := by omega
      go_enter Tryd.func56, Tryd.ntmps56
      go_wp2
      go_ret
      exact ⟨by simp [h1, h2], rfl⟩
  · have k1 : ¬ (48 : Int) ≤ c.toNat := by omega
    go_enter Tryd.func56, Tryd.ntmps56
    go_wp2
    go_ret
    exact ⟨by simp [h1], rfl⟩
theorem more_any (s : ByteArray) (i lo hi : Nat) (w : World) : Calls Tryd.prog 82 #[.string s, .int .i64 i, .int .u8 lo, .int .u8 hi] w fun e w' => e = .returned (.bool (contL (s.data.toList.drop i) lo hi)) ∧ w' = w := by
  rw [cont_at]
  by_cases h0 : i < s.size
  · have e : s.get! i = s[i] := get_get s i h0
    rw [e]
    have i0 : (i : Int) < s.size := by omega
    have i1 : (0 : Int) ≤ i := by omega
    by_cases h1 : lo ≤ s[i].toNat
    · have k1 : (lo : Int) ≤ s[i].toNat := by omega
      by_cases h2 : s[i].toNat ≤ hi
      · have k2 : (s[i].toNat : Int) ≤ hi := by omega
        go_enter Tryd.func82, Tryd.ntmps82
        go_wp2
        go_ret
        exact ⟨by simp [h0, h1, h2], rfl⟩
      · have k2 : ¬ (s[i].toNat : Int) ≤ hi := by omega
        go_enter Tryd.func82, Tryd.ntmps82
        go_wp2
        go_ret
        exact ⟨by simp [h0, h1, h2], rfl⟩
    · have k1 : ¬ (lo : Int) ≤ s[i].toNat := by omega
      go_enter Tryd.func82, Tryd.ntmps82
      go_wp2
      go_ret
      exact ⟨by simp [h0, h1], rfl⟩
  · have i0 : ¬ (i : Int) < s.size := by omega
    go_enter Tryd.func82, Tryd.ntmps82
    go_wp2
    go_ret
    exact ⟨by simp [h0], rfl⟩
/-- The bytes behind a code point's first, one by one. -/
def chk (s : ByteArray) (i lo hi k : Nat) : Bool := if k = 1 then contL (s.data.toList.drop (i + k)) lo hi else contL (s.data.toList.drop (i + k)) 128 191
theorem chk_one (s : ByteArray) (i lo hi : Nat) : chk s i lo hi 1 = contL (s.data.toList.drop (i + 1)) lo hi := rfl
theorem chk_up (s : ByteArray) (i lo hi k : Nat) (h : ¬ k = 1) : chk s i lo hi k = contL (s.data.toList.drop (i + k)) 128 191 := by unfold chk; rw [if_neg h]
theorem chk_next {s : ByteArray} {i lo hi k : Nat} (h : ∀ j, 1 ≤ j → j < k → chk s i lo hi j = true) (hb : chk s i lo hi k = true) : ∀ j, 1 ≤ j → j < k + 1 → chk s i lo hi j = true := fun j h1 h2 => by
  by_cases e : j = k
  · rw [e]; exact hb
  · exact h j h1 (by omega)
/-- What the loop comes to. -/
structure PtV (s : ByteArray) (i lo hi n v : Nat) : Prop where
  ok : (∀ k, 1 ≤ k → k < n → chk s i lo hi k = true) → v = n
  no : ∀ k, 1 ≤ k → k < n → chk s i lo hi k = false → v = 0
set_option maxHeartbeats 1600000 in
theorem pt2 (s : ByteArray) (i : Nat) (hi : i < s.size) (hs : s.size ≤ 281474976710656) (w : World) (hc : 194 ≤ s[i].toNat ∧ s[i].toNat ≤ 223) : Calls Tryd.prog 54 #[.string s, .int .i64 i] w fun e w' => ∃ v : Nat, e = .returned (.int .i64 v) ∧ PtV s i 128 191 2 v ∧ w' = w := by
  have i0 : (i : Int) < s.size := by omega
  have i1 : (0 : Int) ≤ i := by omega
  have q0 : ¬ (s[i].toNat : Int) < 128 := by omega
  have q1 : 194 ≤ (s[i].toNat : Int) := by omega
  have q2 : ¬ 224 ≤ (s[i].toNat : Int) := by omega
  have q3 : ¬ 240 ≤ (s[i].toNat : Int) := by omega
  have q4 : (s[i].toNat : Int) ≤ 223 := by omega
  have q5 : (s[i].toNat : Int) ≤ 239 := by omega
  have q6 : (s[i].toNat : Int) ≤ 244 := by omega
  clear hc
  go_enter Tryd.func54, Tryd.ntmps54
  go_wp2_with fail
  go_loopw [9] (fun vk wr => ∃ (k : Nat), vk = .int .i64 k ∧ 1 ≤ k ∧ (k ≤ 2 ∨ k = 1) ∧ (∀ j, 1 ≤ j → j < k → chk s i 128 191 j = true) ∧ wr = w) (fun vk _ => 2 - (intOf vk).toNat)
  case atStart => exact ⟨1, rfl, by omega, by omega, fun j h1 h2 => by omega, rfl⟩
  case round =>
    obtain ⟨k, rfl, hk1, hk, hall, rfl⟩ := hrel
    by_cases hkn : k < 2
    · have wk : IntKind.i64.wrap ((i : Int) + k) = ((i + k : Nat) : Int) := by rw [IntKind.wrap_i64]; omega
      have hkn' : (k : Int) < 2 := by omega
      have M1 := Lib.hid (more_any s (i + k) 128 191 wr)
      have M2 := Lib.hid (more_any s (i + k) 128 191 wr)
      by_cases hk1' : k = 1
      · subst hk1'
        obtain ⟨b, hb⟩ : ∃ b, chk s i 128 191 1 = b := ⟨_, rfl⟩
        rw [← chk_one, hb] at M2
        generalize contL (s.data.toList.drop (i + 1)) 128 191 = b0 at M1
        go_wp2_with fail
        refine M1.out.mono ?_; rintro e v1 ⟨rfl, rfl⟩
        go_wp2_with fail
        refine M2.out.mono ?_; rintro e v2 ⟨rfl, rfl⟩
        cases b
        · go_wp2
          go_ret
          exact ⟨_, rfl, ⟨fun h => absurd (h 1 (by omega) (by omega)) (by rw [hb]; decide), fun k _ _ _ => rfl⟩, rfl⟩
        · go_wp2_with fail
          go_roundw
          case rel => exact ⟨2, by go_num, by omega, by omega, fun j h1 h2 => by obtain rfl : j = 1 := (by omega); exact hb, trivial⟩
          case measure => simp only [intOf]; omega
      · have hk2 : ((k : Int) == 1) = false := by simp; omega
        obtain ⟨b, hb⟩ : ∃ b, chk s i 128 191 k = b := ⟨_, rfl⟩
        rw [← chk_up s i 128 191 k hk1', hb] at M1
        clear M2
        go_wp2_with fail
        refine M1.out.mono ?_; rintro e v1 ⟨rfl, rfl⟩
        cases b
        · go_wp2
          go_ret
          exact ⟨_, rfl, ⟨fun h => absurd (h k hk1 hkn) (by rw [hb]; decide), fun k _ _ _ => rfl⟩, rfl⟩
        · go_wp2_with fail
          go_roundw
          case rel => exact ⟨k + 1, by go_num, by omega, by omega, chk_next hall hb, trivial⟩
          case measure => simp only [intOf]; omega
    · have hkn' : ¬ (k : Int) < 2 := by omega
      go_wp2
      go_ret
      exact ⟨_, rfl, ⟨fun _ => rfl, fun j h1 h2 h3 => absurd (hall j h1 (by omega)) (by rw [h3]; decide)⟩, rfl⟩
set_option maxHeartbeats 1600000 in
theorem pt224 (s : ByteArray) (i : Nat) (hi : i < s.size) (hs : s.size ≤ 281474976710656) (w : World) (hc : s[i].toNat = 224) : Calls Tryd.prog 54 #[.string s, .int .i64 i] w fun e w' => ∃ v : Nat, e = .returned (.int .i64 v) ∧ PtV s i 160 191 3 v ∧ w' = w := by
  have i0 : (i : Int) < s.size := by omega
  have i1 : (0 : Int) ≤ i := by omega
  go_enter Tryd.func54, Tryd.ntmps54
  go_wp2_with fail
  go_loopw [9] (fun vk wr => ∃ (k : Nat), vk = .int .i64 k ∧ 1 ≤ k ∧ (k ≤ 3 ∨ k = 1) ∧ (∀ j, 1 ≤ j → j < k → chk s i 160 191 j = true) ∧ wr = w) (fun vk _ => 3 - (intOf vk).toNat)
  case atStart => exact ⟨1, rfl, by omega, by omega, fun j h1 h2 => by omega, rfl⟩
  case round =>
    obtain ⟨k, rfl, hk1, hk, hall, rfl⟩ := hrel
    by_cases hkn : k < 3
    · have wk : IntKind.i64.wrap ((i : Int) + k) = ((i + k : Nat) : Int) := by rw [IntKind.wrap_i64]; omega
      have hkn' : (k : Int) < 3 := by omega
      have M1 := Lib.hid (more_any s (i + k) 128 191 wr)
      have M2 := Lib.hid (more_any s (i + k) 160 191 wr)
      by_cases hk1' : k = 1
      · subst hk1'
        obtain ⟨b, hb⟩ : ∃ b, chk s i 160 191 1 = b := ⟨_, rfl⟩
        rw [← chk_one, hb] at M2
        generalize contL (s.data.toList.drop (i + 1)) 128 191 = b0 at M1
        go_wp2_with fail
        refine M1.out.mono ?_; rintro e v1 ⟨rfl, rfl⟩
        go_wp2_with fail
        refine M2.out.mono ?_; rintro e v2 ⟨rfl, rfl⟩
        cases b
        · go_wp2
          go_ret
          exact ⟨_, rfl, ⟨fun h => absurd (h 1 (by omega) (by omega)) (by rw [hb]; decide), fun k _ _ _ => rfl⟩, rfl⟩
        · go_wp2_with fail
          go_roundw
          case rel => exact ⟨2, by go_num, by omega, by omega, fun j h1 h2 => by obtain rfl : j = 1 := (by omega); exact hb, trivial⟩
          case measure => simp only [intOf]; omega
      · have hk2 : ((k : Int) == 1) = false := by simp; omega
        obtain ⟨b, hb⟩ : ∃ b, chk s i 160 191 k = b := ⟨_, rfl⟩
        rw [← chk_up s i 160 191 k hk1', hb] at M1
        clear M2
        go_wp2_with fail
        refine M1.out.mono ?_; rintro e v1 ⟨rfl, rfl⟩
        cases b
        · go_wp2
          go_ret
          exact ⟨_, rfl, ⟨fun h => absurd (h k hk1 hkn) (by rw [hb]; decide), fun k _ _ _ => rfl⟩, rfl⟩
        · go_wp2_with fail
          go_roundw
          case rel => exact ⟨k + 1, by go_num, by omega, by omega, chk_next hall hb, trivial⟩
          case measure => simp only [intOf]; omega
    · have hkn' : ¬ (k : Int) < 3 := by omega
      go_wp2
      go_ret
      exact ⟨_, rfl, ⟨fun _ => rfl, fun j h1 h2 h3 => absurd (hall j h1 (by omega)) (by rw [h3]; decide)⟩, rfl⟩
set_option maxHeartbeats 1600000 in
theorem pt237 (s : ByteArray) (i : Nat) (hi : i < s.size) (hs : s.size ≤ 281474976710656) (w : World) (hc : s[i].toNat = 237) : Calls Tryd.prog 54 #[.string s, .int .i64 i] w fun e w' => ∃ v : Nat, e = .returned (.int .i64 v) ∧ PtV s i 128 159 3 v ∧ w' = w := by
  have i0 : (i : Int) < s.size := by omega
  have i1 : (0 : Int) ≤ i := by omega
  go_enter Tryd.func54, Tryd.ntmps54
  go_wp2_with fail
  go_loopw [9] (fun vk wr => ∃ (k : Nat), vk = .int .i64 k ∧ 1 ≤ k ∧ (k ≤ 3 ∨ k = 1) ∧ (∀ j, 1 ≤ j → j < k → chk s i 128 159 j = true) ∧ wr = w) (fun vk _ => 3 - (intOf vk).toNat)
  case atStart => exact ⟨1, rfl, by omega, by omega, fun j h1 h2 => by omega, rfl⟩
  case round =>
    obtain ⟨k, rfl, hk1, hk, hall, rfl⟩ := hrel
    by_cases hkn : k < 3
    · have wk : IntKind.i64.wrap ((i : Int) + k) = ((i + k : Nat) : Int) := by rw [IntKind.wrap_i64]; omega
      have hkn' : (k : Int) < 3 := by omega
      have M1 := Lib.hid (more_any s (i + k) 128 191 wr)
      have M2 := Lib.hid (more_any s (i + k) 128 159 wr)
      by_cases hk1' : k = 1
      · subst hk1'
        obtain ⟨b, hb⟩ : ∃ b, chk s i 128 159 1 = b := ⟨_, rfl⟩
        rw [← chk_one, hb] at M2
        generalize contL (s.data.toList.drop (i + 1)) 128 191 = b0 at M1
        go_wp2_with fail
        refine M1.out.mono ?_; rintro e v1 ⟨rfl, rfl⟩
        go_wp2_with fail
        refine M2.out.mono ?_; rintro e v2 ⟨rfl, rfl⟩
        cases b
        · go_wp2
          go_ret
          exact ⟨_, rfl, ⟨fun h => absurd (h 1 (by omega) (by omega)) (by rw [hb]; decide), fun k _ _ _ => rfl⟩, rfl⟩
        · go_wp2_with fail
          go_roundw
          case rel => exact ⟨2, by go_num, by omega, by omega, fun j h1 h2 => by obtain rfl : j = 1 := (by omega); exact hb, trivial⟩
          case measure => simp only [intOf]; omega
      · have hk2 : ((k : Int) == 1) = false := by simp; omega
        obtain ⟨b, hb⟩ : ∃ b, chk s i 128 159 k = b := ⟨_, rfl⟩
        rw [← chk_up s i 128 159 k hk1', hb] at M1
        clear M2
        go_wp2_with fail
        refine M1.out.mono ?_; rintro e v1 ⟨rfl, rfl⟩
        cases b
        · go_wp2
          go_ret
          exact ⟨_, rfl, ⟨fun h => absurd (h k hk1 hkn) (by rw [hb]; decide), fun k _ _ _ => rfl⟩, rfl⟩
        · go_wp2_with fail
          go_roundw
          case rel => exact ⟨k + 1, by go_num, by omega, by omega, chk_next hall hb, trivial⟩
          case measure => simp only [intOf]; omega
    · have hkn' : ¬ (k : Int) < 3 := by omega
      go_wp2
      go_ret
      exact ⟨_, rfl, ⟨fun _ => rfl, fun j h1 h2 h3 => absurd (hall j h1 (by omega)) (by rw [h3]; decide)⟩, rfl⟩
set_option maxHeartbeats 1600000 in
theorem pt3 (s : ByteArray) (i : Nat) (hi : i < s.size) (hs : s.size ≤ 281474976710656) (w : World) (hc : 224 ≤ s[i].toNat ∧ s[i].toNat ≤ 239 ∧ ¬ s[i].toNat = 224 ∧ ¬ s[i].toNat = 237) : Calls Tryd.prog 54 #[.string s, .int .i64 i] w fun e w' => ∃ v : Nat, e = .returned (.int .i64 v) ∧ PtV s i 128 191 3 v ∧ w' = w := by
  have i0 : (i : Int) < s.size := by omega
  have i1 : (0 : Int) ≤ i := by omega
  have q0 : ¬ (s[i].toNat : Int) < 128 := by omega
  have q1 : 194 ≤ (s[i].toNat : Int) := by omega
  have q2 : 224 ≤ (s[i].toNat : Int) := by omega
  have q3 : ¬ 240 ≤ (s[i].toNat : Int) := by omega
  have q4 : ¬ (s[i].toNat : Int) ≤ 223 := by omega
  have q5 : (s[i].toNat : Int) ≤ 239 := by omega
  have q6 : (s[i].toNat : Int) ≤ 244 := by omega
  have r224 : ((s[i].toNat : Int) == 224) = false := by simp; omega
  have r237 : ((s[i].toNat : Int) == 237) = false := by simp; omega
  clear hc
  go_enter Tryd.func54, Tryd.ntmps54
  go_wp2_with fail
  go_loopw [9] (fun vk wr => ∃ (k : Nat), vk = .int .i64 k ∧ 1 ≤ k ∧ (k ≤ 3 ∨ k = 1) ∧ (∀ j, 1 ≤ j → j < k → chk s i 128 191 j = true) ∧ wr = w) (fun vk _ => 3 - (intOf vk).toNat)
  case atStart => exact ⟨1, rfl, by omega, by omega, fun j h1 h2 => by omega, rfl⟩
  case round =>
    obtain ⟨k, rfl, hk1, hk, hall, rfl⟩ := hrel
    by_cases hkn : k < 3
    · have wk : IntKind.i64.wrap ((i : Int) + k) = ((i + k : Nat) : Int) := by rw [IntKind.wrap_i64]; omega
      have hkn' : (k : Int) < 3 := by omega
      have M1 := Lib.hid (more_any s (i + k) 128 191 wr)
      have M2 := Lib.hid (more_any s (i + k) 128 191 wr)
      by_cases hk1' : k = 1
      · subst hk1'
        obtain ⟨b, hb⟩ : ∃ b, chk s i 128 191 1 = b := ⟨_, rfl⟩
        rw [← chk_one, hb] at M2
        generalize contL (s.data.toList.drop (i + 1)) 128 191 = b0 at M1
        go_wp2_with fail
        refine M1.out.mono ?_; rintro e v1 ⟨rfl, rfl⟩
        go_wp2_with fail
        refine M2.out.mono ?_; rintro e v2 ⟨rfl, rfl⟩
        cases b
        · go_wp2
          go_ret
          exact ⟨_, rfl, ⟨fun h => absurd (h 1 (by omega) (by omega)) (by rw [hb]; decide), fun k _ _ _ => rfl⟩, rfl⟩
        · go_wp2_with fail
          go_roundw
          case rel => exact ⟨2, by go_num, by omega, by omega, fun j h1 h2 => by obtain rfl : j = 1 := (by omega); exact hb, trivial⟩
          case measure => simp only [intOf]; omega
      · have hk2 : ((k : Int) == 1) = false := by simp; omega
        obtain ⟨b, hb⟩ : ∃ b, chk s i 128 191 k = b := ⟨_, rfl⟩
        rw [← chk_up s i 128 191 k hk1', hb] at M1
        clear M2
        go_wp2_with fail
        refine M1.out.mono ?_; rintro e v1 ⟨rfl, rfl⟩
        cases b
        · go_wp2
          go_ret
          exact ⟨_, rfl, ⟨fun h => absurd (h k hk1 hkn) (by rw [hb]; decide), fun k _ _ _ => rfl⟩, rfl⟩
        · go_wp2_with fail
          go_roundw
          case rel => exact ⟨k + 1, by go_num, by omega, by omega, chk_next hall hb, trivial⟩
          case measure => simp only [intOf]; omega
    · have hkn' : ¬ (k : Int) < 3 := by omega
      go_wp2
      go_ret
      exact ⟨_, rfl, ⟨fun _ => rfl, fun j h1 h2 h3 => absurd (hall j h1 (by omega)) (by rw [h3]; decide)⟩, rfl⟩
set_option maxHeartbeats 1600000 in
theorem pt240 (s : ByteArray) (i : Nat) (hi : i < s.size) (hs : s.size ≤ 281474976710656) (w : World) (hc : s[i].toNat = 240) : Calls Tryd.prog 54 #[.string s, .int .i64 i] w fun e w' => ∃ v : Nat, e = .returned (.int .i64 v) ∧ PtV s i 144 191 4 v ∧ w' = w := by
  have i0 : (i : Int) < s.size := by omega
  have i1 : (0 : Int) ≤ i := by omega
  go_enter Tryd.func54, Tryd.ntmps54
  go_wp2_with fail
  go_loopw [9] (fun vk wr => ∃ (k : Nat), vk = .int .i64 k ∧ 1 ≤ k ∧ (k ≤ 4 ∨ k = 1) ∧ (∀ j, 1 ≤ j → j < k → chk s i 144 191 j = true) ∧ wr = w) (fun vk _ => 4 - (intOf vk).toNat)
  case atStart => exact ⟨1, rfl, by omega, by omega, fun j h1 h2 => by omega, rfl⟩
  case round =>
    obtain ⟨k, rfl, hk1, hk, hall, rfl⟩ := hrel
    by_cases hkn : k < 4
    · have wk : IntKind.i64.wrap ((i : Int) + k) = ((i + k : Nat) : Int) := by rw [IntKind.wrap_i64]; omega
      have hkn' : (k : Int) < 4 := by omega
      have M1 := Lib.hid (more_any s (i + k) 128 191 wr)
      have M2 := Lib.hid (more_any s (i + k) 144 191 wr)
      by_cases hk1' : k = 1
      · subst hk1'
        obtain ⟨b, hb⟩ : ∃ b, chk s i 144 191 1 = b := ⟨_, rfl⟩
        rw [← chk_one, hb] at M2
        generalize contL (s.data.toList.drop (i + 1)) 128 191 = b0 at M1
        go_wp2_with fail
        refine M1.out.mono ?_; rintro e v1 ⟨rfl, rfl⟩
        go_wp2_with fail
        refine M2.out.mono ?_; rintro e v2 ⟨rfl, rfl⟩
        cases b
        · go_wp2
          go_ret
          exact ⟨_, rfl, ⟨fun h => absurd (h 1 (by omega) (by omega)) (by rw [hb]; decide), fun k _ _ _ => rfl⟩, rfl⟩
        · go_wp2_with fail
          go_roundw
          case rel => exact ⟨2, by go_num, by omega, by omega, fun j h1 h2 => by obtain rfl : j = 1 := (by omega); exact hb, trivial⟩
          case measure => simp only [intOf]; omega
      · have hk2 : ((k : Int) == 1) = false := by simp; omega
        obtain ⟨b, hb⟩ : ∃ b, chk s i 144 191 k = b := ⟨_, rfl⟩
        rw [← chk_up s i 144 191 k hk1', hb] at M1
        clear M2
        go_wp2_with fail
        refine M1.out.mono ?_; rintro e v1 ⟨rfl, rfl⟩
        cases b
        · go_wp2
          go_ret
          exact ⟨_, rfl, ⟨fun h => absurd (h k hk1 hkn) (by rw [hb]; decide), fun k _ _ _ => rfl⟩, rfl⟩
        · go_wp2_with fail
          go_roundw
          case rel => exact ⟨k + 1, by go_num, by omega, by omega, chk_next hall hb, trivial⟩
          case measure => simp only [intOf]; omega
    · have hkn' : ¬ (k : Int) < 4 := by omega
      go_wp2
      go_ret
      exact ⟨_, rfl, ⟨fun _ => rfl, fun j h1 h2 h3 => absurd (hall j h1 (by omega)) (by rw [h3]; decide)⟩, rfl⟩
set_option maxHeartbeats 1600000 in
theorem pt244 (s : ByteArray) (i : Nat) (hi : i < s.size) (hs : s.size ≤ 281474976710656) (w : World) (hc : s[i].toNat = 244) : Calls Tryd.prog 54 #[.string s, .int .i64 i] w fun e w' => ∃ v : Nat, e = .returned (.int .i64 v) ∧ PtV s i 128 143 4 v ∧ w' = w := by
  have i0 : (i : Int) < s.size := by omega
  have i1 : (0 : Int) ≤ i := by omega
  go_enter Tryd.func54, Tryd.ntmps54
  go_wp2_with fail
  go_loopw [9] (fun vk wr => ∃ (k : Nat), vk = .int .i64 k ∧ 1 ≤ k ∧ (k ≤ 4 ∨ k = 1) ∧ (∀ j, 1 ≤ j → j < k → chk s i 128 143 j = true) ∧ wr = w) (fun vk _ => 4 - (intOf vk).toNat)
  case atStart => exact ⟨1, rfl, by omega, by omega, fun j h1 h2 => by omega, rfl⟩
  case round =>
    obtain ⟨k, rfl, hk1, hk, hall, rfl⟩ := hrel
    by_cases hkn : k < 4
    · have wk : IntKind.i64.wrap ((i : Int) + k) = ((i + k : Nat) : Int) := by rw [IntKind.wrap_i64]; omega
      have hkn' : (k : Int) < 4 := by omega
      have M1 := Lib.hid (more_any s (i + k) 128 191 wr)
      have M2 := Lib.hid (more_any s (i + k) 128 143 wr)
      by_cases hk1' : k = 1
      · subst hk1'
        obtain ⟨b, hb⟩ : ∃ b, chk s i 128 143 1 = b := ⟨_, rfl⟩
        rw [← chk_one, hb] at M2
        generalize contL (s.data.toList.drop (i + 1)) 128 191 = b0 at M1
        go_wp2_with fail
        refine M1.out.mono ?_; rintro e v1 ⟨rfl, rfl⟩
        go_wp2_with fail
        refine M2.out.mono ?_; rintro e v2 ⟨rfl, rfl⟩
        cases b
        · go_wp2
          go_ret
          exact ⟨_, rfl, ⟨fun h => absurd (h 1 (by omega) (by omega)) (by rw [hb]; decide), fun k _ _ _ => rfl⟩, rfl⟩
        · go_wp2_with fail
          go_roundw
          case rel => exact ⟨2, by go_num, by omega, by omega, fun j h1 h2 => by obtain rfl : j = 1 := (by omega); exact hb, trivial⟩
          case measure => simp only [intOf]; omega
      · have hk2 : ((k : Int) == 1) = false := by simp; omega
        obtain ⟨b, hb⟩ : ∃ b, chk s i 128 143 k = b := ⟨_, rfl⟩
        rw [← chk_up s i 128 143 k hk1', hb] at M1
        clear M2
        go_wp2_with fail
        refine M1.out.mono ?_; rintro e v1 ⟨rfl, rfl⟩
        cases b
        · go_wp2
          go_ret
          exact ⟨_, rfl, ⟨fun h => absurd (h k hk1 hkn) (by rw [hb]; decide), fun k _ _ _ => rfl⟩, rfl⟩
        · go_wp2_with fail
          go_roundw
          case rel => exact ⟨k + 1, by go_num, by omega, by omega, chk_next hall hb, trivial⟩
          case measure => simp only [intOf]; omega
    · have hkn' : ¬ (k : Int) < 4 := by omega
      go_wp2
      go_ret
      exact ⟨_, rfl, ⟨fun _ => rfl, fun j h1 h2 h3 => absurd (hall j h1 (by omega)) (by rw [h3]; decide)⟩, rfl⟩
set_option maxHeartbeats 1600000 in
theorem pt4 (s : ByteArray) (i : Nat) (hi : i < s.size) (hs : s.size ≤ 281474976710656) (w : World) (hc : 240 ≤ s[i].toNat ∧ s[i].toNat ≤ 244 ∧ ¬ s[i].toNat = 240 ∧ ¬ s[i].toNat = 244) : Calls Tryd.prog 54 #[.string s, .int .i64 i] w fun e w' => ∃ v : Nat, e = .returned (.int .i64 v) ∧ PtV s i 128 191 4 v ∧ w' = w := by
  have i0 : (i : Int) < s.size := by omega
  have i1 : (0 : Int) ≤ i := by omega
  have q0 : ¬ (s[i].toNat : Int) < 128 := by omega
  have q1 : 194 ≤ (s[i].toNat : Int) := by omega
  have q2 : 224 ≤ (s[i].toNat : Int) := by omega
  have q3 : 240 ≤ (s[i].toNat : Int) := by omega
  have q4 : ¬ (s[i].toNat : Int) ≤ 223 := by omega
  have q5 : ¬ (s[i].toNat : Int) ≤ 239 := by omega
  have q6 : (s[i].toNat : Int) ≤ 244 := by omega
  have r240 : ((s[i].toNat : Int) == 240) = false := by simp; omega
  have r244 : ((s[i].toNat : Int) == 244) = false := by simp; omega
  clear hc
  go_enter Tryd.func54, Tryd.ntmps54
  go_wp2_with fail
  go_loopw [9] (fun vk wr => ∃ (k : Nat), vk = .int .i64 k ∧ 1 ≤ k ∧ (k ≤ 4 ∨ k = 1) ∧ (∀ j, 1 ≤ j → j < k → chk s i 128 191 j = true) ∧ wr = w) (fun vk _ => 4 - (intOf vk).toNat)
  case atStart => exact ⟨1, rfl, by omega, by omega, fun j h1 h2 => by omega, rfl⟩
  case round =>
    obtain ⟨k, rfl, hk1, hk, hall, rfl⟩ := hrel
    by_cases hkn : k < 4
    · have wk : IntKind.i64.wrap ((i : Int) + k) = ((i + k : Nat) : Int) := by rw [IntKind.wrap_i64]; omega
      have hkn' : (k : Int) < 4 := by omega
      have M1 := Lib.hid (more_any s (i + k) 128 191 wr)
      have M2 := Lib.hid (more_any s (i + k) 128 191 wr)
      by_cases hk1' : k = 1
      · subst hk1'
        obtain ⟨b, hb⟩ : ∃ b, chk s i 128 191 1 = b := ⟨_, rfl⟩
        rw [← chk_one, hb] at M2
        generalize contL (s.data.toList.drop (i + 1)) 128 191 = b0 at M1
        go_wp2_with fail
        refine M1.out.mono ?_; rintro e v1 ⟨rfl, rfl⟩
        go_wp2_with fail
        refine M2.out.mono ?_; rintro e v2 ⟨rfl, rfl⟩
        cases b
        · go_wp2
          go_ret
          exact ⟨_, rfl, ⟨fun h => absurd (h 1 (by omega) (by omega)) (by rw [hb]; decide), fun k _ _ _ => rfl⟩, rfl⟩
        · go_wp2_with fail
          go_roundw
          case rel => exact ⟨2, by go_num, by omega, by omega, fun j h1 h2 => by obtain rfl : j = 1 := (by omega); exact hb, trivial⟩
          case measure => simp only [intOf]; omega
      · have hk2 : ((k : Int) == 1) = false := by simp; omega
        obtain ⟨b, hb⟩ : ∃ b, chk s i 128 191 k = b := ⟨_, rfl⟩
        rw [← chk_up s i 128 191 k hk1', hb] at M1
        clear M2
        go_wp2_with fail
        refine M1.out.mono ?_; rintro e v1 ⟨rfl, rfl⟩
        cases b
        · go_wp2
          go_ret
          exact ⟨_, rfl, ⟨fun h => absurd (h k hk1 hkn) (by rw [hb]; decide), fun k _ _ _ => rfl⟩, rfl⟩
        · go_wp2_with fail
          go_roundw
          case rel => exact ⟨k + 1, by go_num, by omega, by omega, chk_next hall hb, trivial⟩
          case measure => simp only [intOf]; omega
    · have hkn' : ¬ (k : Int) < 4 := by omega
      go_wp2
      go_ret
      exact ⟨_, rfl, ⟨fun _ => rfl, fun j h1 h2 h3 => absurd (hall j h1 (by omega)) (by rw [h3]; decide)⟩, rfl⟩
set_option maxHeartbeats 1600000 in
theorem pt0a (s : ByteArray) (i : Nat) (hi : i < s.size) (hs : s.size ≤ 281474976710656) (w : World) (hc : 128 ≤ s[i].toNat ∧ s[i].toNat ≤ 193) : Calls Tryd.prog 54 #[.string s, .int .i64 i] w fun e w' => ∃ v : Nat, e = .returned (.int .i64 v) ∧ PtV s i 128 191 0 v ∧ w' = w := by
  have i0 : (i : Int) < s.size := by omega
  have i1 : (0 : Int) ≤ i := by omega
  have q0 : ¬ (s[i].toNat : Int) < 128 := by omega
  have q1 : ¬ 194 ≤ (s[i].toNat : Int) := by omega
  have q2 : ¬ 224 ≤ (s[i].toNat : Int) := by omega
  have q3 : ¬ 240 ≤ (s[i].toNat : Int) := by omega
  have q4 : (s[i].toNat : Int) ≤ 223 := by omega
  have q5 : (s[i].toNat : Int) ≤ 239 := by omega
  have q6 : (s[i].toNat : Int) ≤ 244 := by omega
  clear hc
  go_enter Tryd.func54, Tryd.ntmps54
  go_wp2_with fail
  go_loopw [9] (fun vk wr => ∃ (k : Nat), vk = .int .i64 k ∧ 1 ≤ k ∧ (k ≤ 0 ∨ k = 1) ∧ (∀ j, 1 ≤ j → j < k → chk s i 128 191 j = true) ∧ wr = w) (fun vk _ => 0 - (intOf vk).toNat)
  case atStart => exact ⟨1, rfl, by omega, by omega, fun j h1 h2 => by omega, rfl⟩
  case round =>
    obtain ⟨k, rfl, hk1, hk, hall, rfl⟩ := hrel
    by_cases hkn : k < 0
    · omega
    · have hkn' : ¬ (k : Int) < 0 := by omega
      go_wp2
      go_ret
      exact ⟨_, rfl, ⟨fun _ => rfl, fun j h1 h2 h3 => absurd (hall j h1 (by omega)) (by rw [h3]; decide)⟩, rfl⟩
set_option maxHeartbeats 1600000 in
theorem pt0b (s : ByteArray) (i : Nat) (hi : i < s.size) (hs : s.size ≤ 281474976710656) (w : World) (hc : 245 ≤ s[i].toNat) : Calls Tryd.prog 54 #[.string s, .int .i64 i] w fun e w' => ∃ v : Nat, e = .returned (.int .i64 v) ∧ PtV s i 128 191 0 v ∧ w' = w := by
  have i0 : (i : Int) < s.size := by omega
  have i1 : (0 : Int) ≤ i := by omega
  have q0 : ¬ (s[i].toNat : Int) < 128 := by omega
  have q1 : 194 ≤ (s[i].toNat : Int) := by omega
  have q2 : 224 ≤ (s[i].toNat : Int) := by omega
  have q3 : 240 ≤ (s[i].toNat : Int) := by omega
  have q4 : ¬ (s[i].toNat : Int) ≤ 223 := by omega
  have q5 : ¬ (s[i].toNat : Int) ≤ 239 := by omega
  have q6 : ¬ (s[i].toNat : Int) ≤ 244 := by omega
  clear hc
  go_enter Tryd.func54, Tryd.ntmps54
  go_wp2_with fail
  go_loopw [9] (fun vk wr => ∃ (k : Nat), vk = .int .i64 k ∧ 1 ≤ k ∧ (k ≤ 0 ∨ k = 1) ∧ (∀ j, 1 ≤ j → j < k → chk s i 128 191 j = true) ∧ wr = w) (fun vk _ => 0 - (intOf vk).toNat)
  case atStart => exact ⟨1, rfl, by omega, by omega, fun j h1 h2 => by omega, rfl⟩
  case round =>
    obtain ⟨k, rfl, hk1, hk, hall, rfl⟩ := hrel
    by_cases hkn : k < 0
    · omega
    · have hkn' : ¬ (k : Int) < 0 := by omega
      go_wp2
      go_ret
      exact ⟨_, rfl, ⟨fun _ => rfl, fun j h1 h2 h3 => absurd (hall j h1 (by omega)) (by rw [h3]; decide)⟩, rfl⟩
theorem pt1 (s : ByteArray) (i : Nat) (hi : i < s.size) (w : World) (hc : s[i].toNat < 128) : Calls Tryd.prog 54 #[.string s, .int .i64 i] w fun e w' => e = .returned (.int .i64 1) ∧ w' = w := by
  have i0 : (i : Int) < s.size := by omega
  have i1 : (0 : Int) ≤ i := by omega
  have q0 : (s[i].toNat : Int) < 128 := by omega
  go_enter Tryd.func54, Tryd.ntmps54
  go_wp2
  go_ret
  exact ⟨rfl, rfl⟩
section
variable {s : ByteArray} {i lo hi v : Nat}
theorem ptv0 (h : PtV s i lo hi 0 v) : v = 0 := h.ok (fun k h1 h2 => by omega)
theorem ptv2 (h : PtV s i lo hi 2 v) : v = if chk s i lo hi 1 = true then 2 else 0 := by
  by_cases c : chk s i lo hi 1 = true
  · rw [if_pos c]
    exact h.ok (fun k h1 h2 => by obtain rfl : k = 1 := (by omega); exact c)
  · rw [if_neg c]
    exact h.no 1 (by omega) (by omega) (by simpa using c)
theorem ptv3 (h : PtV s i lo hi 3 v) : v = if chk s i lo hi 1 = true ∧ chk s i lo hi 2 = true then 3 else 0 := by
  by_cases c : chk s i lo hi 1 = true ∧ chk s i lo hi 2 = true
  · rw [if_pos c]
    exact h.ok (fun k h1 h2 => by
      by_cases h : k = 1
      · rw [h]; exact c.1
      · obtain rfl : k = 2 := (by omega)
        exact c.2)
  · rw [if_neg c]
    by_cases c1 : chk s i lo hi 1 = true
    · exact h.no 2 (by omega) (by omega) (by cases h : chk s i lo hi 2; rfl; exact absurd ⟨c1, h⟩ c)
    · exact h.no 1 (by omega) (by omega) (by simpa using c1)
theorem ptv4 (h : PtV s i lo hi 4 v) : v = if chk s i lo hi 1 = true ∧ chk s i lo hi 2 = true ∧ chk s i lo hi 3 = true then 4 else 0 := by
  by_cases c : chk s i lo hi 1 = true ∧ chk s i lo hi 2 = true ∧ chk s i lo hi 3 = true
  · rw [if_pos c]
    exact h.ok (fun k h1 h2 => by
      by_cases h : k = 1
      · rw [h]; exact c.1
      · by_cases h : k = 2
        · rw [h]; exact c.2.1
        · obtain rfl : k = 3 := (by omega)
          exact c.2.2)
  · rw [if_neg c]
    by_cases c1 : chk s i lo hi 1 = true
    · by_cases c2 : chk s i lo hi 2 = true
      · exact h.no 3 (by omega) (by omega) (by cases h : chk s i lo hi 3; rfl; exact absurd ⟨c1, c2, h⟩ c)
      · exact h.no 2 (by omega) (by omega) (by simpa using c2)
    · exact h.no 1 (by omega) (by omega) (by simpa using c1)
end
theorem point_any (s : ByteArray) (i : Nat) (hi : i < s.size) (hs : s.size ≤ 281474976710656) (w : World) : Calls Tryd.prog 54 #[.string s, .int .i64 i] w fun e w' => e = .returned (.int .i64 (pointL (s.data.toList.drop i) : Nat)) ∧ w' = w := by
  have hp : pointL (s.data.toList.drop i) = pointC s[i] (s.data.toList.drop (i + 1)) := by rw [get_drop s i hi]; rfl
  have d1 : (s.data.toList.drop (i + 1)).drop 1 = s.data.toList.drop (i + 2) := by rw [List.drop_drop]
  have d2 : (s.data.toList.drop (i + 1)).drop 2 = s.data.toList.drop (i + 3) := by rw [List.drop_drop]
  have hb := s[i].toNat_lt
  rw [hp]
  unfold pointC
  rw [d1, d2]
  have fin : ∀ {lo hi n p : Nat} {e : Ending} {w' : World}, (∀ v, PtV s i lo hi n v → v = p) → (∃ v : Nat, e = .returned (.int .i64 v) ∧ PtV s i lo hi n v ∧ w' = w) → e = .returned (.int .i64 p) ∧ w' = w := fun h ⟨v, h1, h2, h3⟩ => by rw [← h v h2]; exact ⟨h1, h3⟩
  by_cases c1 : s[i].toNat < 128
  · rw [if_pos c1]
    exact pt1 s i hi w c1
  · rw [if_neg c1]
    by_cases c2 : 194 ≤ s[i].toNat ∧ s[i].toNat ≤ 223
    · rw [if_pos c2]
      exact (pt2 s i hi hs w c2).mono fun e w' h => fin (fun v hv => ptv2 hv) h
    · rw [if_neg c2]
      by_cases c3 : 224 ≤ s[i].toNat ∧ s[i].toNat ≤ 239
      · rw [if_pos c3]
        by_cases e1 : s[i].toNat = 224
        · rw [if_pos e1, if_neg (show ¬ s[i].toNat = 237 by omega)]
          exact (pt224 s i hi hs w e1).mono fun e w' h => fin (fun v hv => ptv3 hv) h
        · by_cases e2 : s[i].toNat = 237
          · rw [if_neg e1, if_pos e2]
            exact (pt237 s i hi hs w e2).mono fun e w' h => fin (fun v hv => ptv3 hv) h
          · rw [if_neg e1, if_neg e2]
            exact (pt3 s i hi hs w ⟨c3.1, c3.2, e1, e2⟩).mono fun e w' h => fin (fun v hv => ptv3 hv) h
      · rw [if_neg c3]
        by_cases c4 : 240 ≤ s[i].toNat ∧ s[i].toNat ≤ 244
        · rw [if_pos c4]
          by_cases e1 : s[i].toNat = 240
          · rw [if_pos e1, if_neg (show ¬ s[i].toNat = 244 by omega)]
            exact (pt240 s i hi hs w e1).mono fun e w' h => fin (fun v hv => ptv4 hv) h
          · by_cases e2 : s[i].toNat = 244
            · rw [if_neg e1, if_pos e2]
              exact (pt244 s i hi hs w e2).mono fun e w' h => fin (fun v hv => ptv4 hv) h
            · rw [if_neg e1, if_neg e2]
              exact (pt4 s i hi hs w ⟨c4.1, c4.2, e1, e2⟩).mono fun e w' h => fin (fun v hv => ptv4 hv) h
        · rw [if_neg c4]
          by_cases c5 : s[i].toNat ≤ 193
          · exact (pt0a s i hi hs w ⟨by omega, c5⟩).mono fun e w' h => fin (fun v hv => ptv0 hv) h
          · exact (pt0b s i hi hs w (by omega)).mono fun e w' h => fin (fun v hv => ptv0 hv) h
end Go.Proofs.YtklomjpnmmaogaaDoor
