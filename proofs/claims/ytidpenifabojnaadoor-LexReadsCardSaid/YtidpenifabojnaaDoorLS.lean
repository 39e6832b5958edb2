/- The document's Join. -/
import Derived.Test.YtidpenifabojnaaDoorLJ
import Derived.Test.YtidpenifabojnaaDoorLRem
namespace Go.Proofs.YtidpenifabojnaaDoor
open Go Go.RowKit
set_option linter.unusedVariables false
set_option linter.unusedSimpArgs false
set_option maxRecDepth 100000

theorem wt_take (l : List Tok) (k : Nat) : wt (l.take k) ≤ wt l := by
  have := wt_app (l.take k) (l.drop k)
  rw [List.take_append_drop] at this
  omega
theorem size_u8 (z : List UInt8) : ((⟨z.toArray⟩ : ByteArray).size : Int) = z.length := by
  rw [Lib.size_eq]
theorem str_nil {z : List UInt8} (h : z ≠ []) : ((⟨z.toArray⟩ : ByteArray).toList == []) = false := by
  rw [Lib.toList_data]
  cases z with
  | nil => exact absurd rfl h
  | cons a r => rfl
theorem text_wt {l : List Tok} {k : Nat} {x : Tok} (h : l[k]? = some x) : x.text.length + 1 ≤ wt l := by
  obtain ⟨hk, e⟩ := List.getElem?_eq_some_iff.1 h
  have h1 := wt_app (l.take k) (l.drop k)
  rw [List.take_append_drop, List.drop_eq_getElem_cons hk, e] at h1
  simp only [wt] at h1
  omega
set_option maxHeartbeats 3200000 in
theorem rjoin_any (A : Option Addr) (l : List Tok) (c : Nat) (w : World) (hlc : l.length ≤ c) (hc2 : c ≤ 9223372036854775807) (hR : RdT w w.heap.size A l) (hwt : wt l ≤ 2097153) :
    Calls Tryd.prog 11 #[.slice A l.length c] w fun e w' => e = .returned (.string ⟨(joinS [] l).toArray⟩) ∧ w' = w := by
  have hn := len_wt l
  have HR := Lib.hid hR
  have HJ := Lib.hid (fun k => Nat.le_trans (joinS_len (l.take k) []) (by simpa using wt_take l k))
  have hn2 : (l.length : Int) ≤ 2097153 := by omega
  clear hR
  go_enter Tryd.func11, Tryd.ntmps11
  go_wp2_with fail
  go_loopw [3, 4] (fun vs vi wr => ∃ (k : Nat), vi = .int .i64 k ∧ vs = .string ⟨(joinS [] (l.take k)).toArray⟩ ∧ k ≤ l.length ∧ wr = w) (fun _ vi _ => l.length - (intOf vi).toNat)
  case atStart => exact ⟨0, rfl, rfl, Nat.zero_le _, rfl⟩
  case round =>
    obtain ⟨k, rfl, rfl, hk, hv⟩ := hrel
    obtain rfl := hv.symm
    clear hv
    by_cases hlt : k < l.length
    · obtain ⟨x, hx⟩ : ∃ x, l[k]? = some x := ⟨_, List.getElem?_eq_getElem hlt⟩
      obtain ⟨b, o, rfl, hb, x0, x1, _, _, _⟩ := HR.out.at5 hx
      have i0 : (0 : Int) ≤ k := by omega
      have i1 : (k : Int) < l.length := by omega
      have wk : IntKind.i64.wrap ((k : Int) + 1) = k + 1 := by rw [IntKind.wrap_i64]; omega
      have hs := joinS_app (l.take k) [] x
      rw [← tok_snoc hx] at hs
      have hz := HJ.out k
      have htx := text_wt hx
      generalize joinS [] (l.take k) = z at hs hz ⊢
      have s0 : ((⟨z.toArray⟩ : ByteArray).size : Int) ≤ 8388608 := by rw [size_u8]; omega
      have s1 : ((⟨(z ++ [32]).toArray⟩ : ByteArray).size : Int) ≤ 8388608 := by rw [size_u8, List.length_append]; simp; omega
      have s2 : ((⟨x.text.toArray⟩ : ByteArray).size : Int) ≤ 8388608 := by rw [size_u8]; omega
      clear hx hz htx
      by_cases hk3 : x.kind = 3
      · have hk3' : (x.kind == 3) = true := by simpa using hk3
        simp only [joinS] at hs
        rw [if_pos hk3] at hs
        have HS := Lib.hid hs
        clear hs
        go_wp2_with fail
        go_roundw
        case rel => exact ⟨k + 1, by go_num, by rw [HS.out], by omega, trivial⟩
        case measure => simp only [intOf]; omega
      · have hk3' : (x.kind == 3) = false := by simpa using hk3
        simp only [joinS] at hs
        rw [if_neg hk3] at hs
        by_cases hz : z = []
        · subst hz
          rw [if_pos rfl] at hs
          have HS := Lib.hid hs
          have s3 : ¬ (9223372036854775807 : Int) < x.text.length := by rw [size_u8] at s2; omega
          have s4 : ((⟨#[]⟩ : ByteArray).size : Int) ≤ 8388608 := by decide
          have e0 : (⟨([] : List UInt8).toArray⟩ : ByteArray) = ⟨#[]⟩ := rfl
          rw [e0]
          clear hs s1 s0 e0
          go_wp2_with fail
          go_roundw
          case rel => exact ⟨k + 1, by go_num, by rw [HS.out, ← bytes_app], by omega, trivial⟩
          case measure => simp only [intOf]; omega
        · rw [if_neg hz] at hs
          have hzz : z.isEmpty = false := by cases z with
            | nil => exact absurd rfl hz
            | cons a r => rfl
          have s5 : ¬ 9223372036854775807 < z.length + 1 := by rw [size_u8] at s0; omega
          have HS := Lib.hid hs
          have eb : (⟨z.toArray⟩ : ByteArray) ++ ⟨#[32]⟩ = ⟨(z ++ [32]).toArray⟩ := bytes_app z [32]
          clear hs hz
          go_wp2_with fail
          go_roundw
          case rel => exact ⟨k + 1, by go_num, by rw [HS.out, ← bytes_app (z ++ [32]) x.text, ← eb], by omega, trivial⟩
          case measure => simp only [intOf]; omega
    · obtain rfl : k = l.length := by omega
      rw [List.take_length]
      go_wp2
      go_ret
      exact ⟨rfl, rfl⟩
end Go.Proofs.YtidpenifabojnaaDoor
