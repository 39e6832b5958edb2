/- The walk of LexRemarks. -/
import Derived.Test.YtidpenifabojnaaDoorLRem
namespace Go.Proofs.YtidpenifabojnaaDoor
open Go Go.RowKit
set_option linter.unusedVariables false
set_option linter.unusedSimpArgs false
set_option maxRecDepth 100000

theorem rem_c (l : List Int) (hl : l.length ≤ 60) (w : World) (hw : LexW w) : Calls Tryd.prog 7 #[.string ⟨(35 :: remT l).toArray⟩] w fun e w' => ∃ g d, e = .returned (.tuple #[.slice (some ⟨g, 0, none⟩) 1 d, .agg #[.int .i64 0, .int .i64 0], .int .i64 0]) ∧ 1 ≤ d ∧ d ≤ 9223372036854775807 ∧ g < w'.heap.size ∧ w'.cell? ⟨g, 3, none⟩ = some (.int .i64 1) ∧ w'.cell? ⟨g, 4, none⟩ = some (.int .i64 ((remN l + 2 : Nat) : Int)) ∧ Below w.heap.size w w' := by
  refine (lex_any ⟨(35 :: remT l).toArray⟩ w hw).mono ?_
  have e0 : (⟨(35 :: remT l).toArray⟩ : ByteArray).data.toList = 35 :: remT l := by simp
  rw [e0, lex_rems l hl]
  rintro e w' ⟨⟨a, c, er, h, _⟩ | ⟨L, D, d, h, rfl, ho⟩, hb⟩
  · cases h
  · injection h with h
    subst h
    obtain ⟨A, c, e, h1, h2⟩ := own_slice ho
    injection e with e1 _ e2
    subst e1 e2
    obtain ⟨g, rfl, _, hlt, hc, _⟩ := own_lt ho (by simp)
    exact ⟨g, d, rfl, h1, h2, hlt, hc 3 _ rfl, hc 4 _ rfl, hb⟩
set_option maxHeartbeats 6400000 in
theorem LexRemarks_walk (A : Option Addr) (l : List Int) (c : Nat) (w : World) (hw : LexW w) (hlc : l.length ≤ c) (hcm : c ≤ 9223372036854775807) (hr : Reads w w.heap.size 1 A l.length (l.map (Value.int .i32))) :
    Calls Tryd.prog 3 #[.slice A l.length c] w fun e w' => e = .returned (.bool true) ∧ Below w.heap.size w w' := by
  have HW := Lib.hid hw
  have HR := Lib.hid hr
  have HL : (l.take 60).length = min 60 l.length := List.length_take
  obtain ⟨m, hm⟩ : ∃ m, (l.take 60).length = m := ⟨_, rfl⟩
  rw [hm] at HL
  have HM := Lib.hid hm
  clear hw hr hm
  go_enter Tryd.func3, Tryd.ntmps3
  go_wp2_with fail
  go_loopw [3, 4, 16] (fun vs vn vk wr => ∃ (k : Nat), vk = .int .i64 k ∧ vs = .string ⟨(remT (l.take k)).toArray⟩ ∧ vn = .int .i64 (remN (l.take k)) ∧ k ≤ m ∧ wr = w) (fun _ _ vk _ => m - (intOf vk).toNat)
  case atStart => exact ⟨0, rfl, rfl, rfl, Nat.zero_le _, rfl⟩
  case round =>
      obtain ⟨k, rfl, rfl, rfl, hk, rfl⟩ := hrel
      by_cases hkm : k < m
      · obtain ⟨x, hx⟩ : ∃ x, l[k]? = some x := ⟨_, List.getElem?_eq_getElem (by omega)⟩
        obtain ⟨b, o, rfl, hb, hc⟩ := HR.out.get (j := k) (u := .int .i32 x) (by rw [List.getElem?_map, hx]; rfl) (by omega)
        have HX := Lib.hid (take_snoc hx)
        have k0 : (0 : Int) ≤ k := by omega
        have k1 : (k : Int) < l.length := by omega
        have k2 : (k : Int) < 60 := by omega
        have wn : IntKind.i64.wrap ((remN (l.take k) : Int) + 1) = (remN (l.take k) : Int) + 1 := by
          have := remN_le (l.take k)
          rw [List.length_take] at this
          rw [IntKind.wrap_i64]
          omega
        have s1 : ((⟨(remT (l.take k)).toArray⟩ : ByteArray).size : Int) ≤ 8388608 := by
          have := remT_len (l.take k)
          rw [List.length_take] at this
          rw [Lib.size_eq]
          show ((remT (l.take k)).length : Int) ≤ _
          omega
        have s2 : ((Utf8.encode x).size : Int) ≤ 8388608 := by
          have := enc_len x
          rw [Lib.size_eq]
          show ((enc x).length : Int) ≤ _
          omega
        clear hx
        by_cases h10 : x = 10
        · subst h10
          have e1 : remT (l.take (k + 1)) = remT (l.take k) := by rw [HX.out, remT_app]; simp [remT, okR]
          have e2 : remN (l.take (k + 1)) = remN (l.take k) := by rw [HX.out, remN_app]; simp [remN, okR]
          go_wp2_with fail
          go_roundw
          case rel => exact ⟨k + 1, by go_num, by rw [e1], by rw [e2], by omega, trivial⟩
          case measure => simp only [intOf]; omega
        · obtain ⟨q, hq⟩ : ∃ q, (enc x == [239, 191, 189]) = q := ⟨_, rfl⟩
          have hq2 : ((Utf8.encode x).toList == [239, 191, 189]) = q := by rw [← hq, ← str_eq x, Lib.toList_data ⟨#[239, 191, 189]⟩]
          cases q
          · have e1 : remT (l.take (k + 1)) = remT (l.take k) ++ enc x := by rw [HX.out, remT_app]; simp [remT, okR, h10, hq]
            have e2 : remN (l.take (k + 1)) = remN (l.take k) + 1 := by rw [HX.out, remN_app]; simp [remN, okR, h10, hq]
            go_wp2_with fail
            go_roundw
            case rel => exact ⟨k + 1, by go_num, by rw [e1, enc_bytes, bytes_app], by rw [e2]; rfl, by omega, trivial⟩
            case measure => simp only [intOf]; omega
          · have e1 : remT (l.take (k + 1)) = remT (l.take k) := by rw [HX.out, remT_app]; simp [remT, okR, h10, hq]
            have e2 : remN (l.take (k + 1)) = remN (l.take k) := by rw [HX.out, remN_app]; simp [remN, okR, h10, hq]
            go_wp2_with fail
            go_roundw
            case rel => exact ⟨k + 1, by go_num, by rw [e1], by rw [e2], by omega, trivial⟩
            case measure => simp only [intOf]; omega
      · obtain rfl : k = m := by omega
        have HC := Lib.hid (rem_c (l.take k) (by rw [List.length_take]; omega) wr HW.out)
        have HK := Lib.hid (fun w' (hb : Below wr.heap.size wr w') => wakes_any w' (HW.out.below hb))
        have wn : IntKind.i64.wrap ((remN (l.take k) : Int) + 2) = (remN (l.take k) : Int) + 2 := by
          have := remN_le (l.take k)
          rw [List.length_take] at this
          rw [IntKind.wrap_i64]
          omega
        have eb : (⟨#[35]⟩ : ByteArray) ++ ⟨(remT (l.take k)).toArray⟩ = ⟨(35 :: remT (l.take k)).toArray⟩ := bytes_app [35] _
        have j1 : ¬ ((k : Int) < l.length ∧ (k : Int) < 60) := by omega
        have s1 : ((⟨(remT (l.take k)).toArray⟩ : ByteArray).size : Int) ≤ 8388608 := by
          have := remT_len (l.take k)
          rw [List.length_take] at this
          rw [Lib.size_eq]
          show ((remT (l.take k)).length : Int) ≤ _
          omega
        have s3 : ((⟨#[35]⟩ : ByteArray).size : Int) ≤ 8388608 := by decide
        generalize remN (l.take k) = n at HC wn ⊢
        generalize remT (l.take k) = z at HC eb s1 ⊢
        rw [← eb] at HC
        clear HL HM hk hkm eb
        go_wp2_with fail
        refine HC.out.mono ?_; rintro e v1 ⟨g, d, rfl, h1, h2, h3, k3, k4, hb1⟩
        have k4' : v1.cell? ⟨g, 4, none⟩ = some (.int .i64 ((n : Int) + 2)) := k4
        have ne : ¬ v1.heap.size = g := by omega
        clear k4
        go_wp2_with fail
        refine (HK.out _ (bl_alloc hb1 _)).mono ?_; rintro e v2 ⟨rfl, hb2⟩
        have hg : ∀ o, v2.cell? ⟨g, o, none⟩ = v1.cell? ⟨g, o, none⟩ := fun o => by
          rw [hb2.cell (p := ⟨g, o, none⟩) (Nat.lt_of_lt_of_le h3 (bl_alloc (Below.refl v1.heap.size v1) _).size)]
          exact (bl_alloc (Below.refl _ _) _).cell (p := ⟨g, o, none⟩) h3
        have m3 := (hg 3).trans k3
        have m4 := (hg 4).trans k4'
        clear hg k3 k4'
        go_wp2
        go_ret
        exact ⟨rfl, bl_step (bl_alloc hb1 _) hb2⟩
end Go.Proofs.YtidpenifabojnaaDoor
