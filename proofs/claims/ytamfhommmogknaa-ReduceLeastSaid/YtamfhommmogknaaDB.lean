/- ContainsFunc over a slice of numbers; Check. -/
import Derived.Test.YtamfhommmogknaaDA
namespace Go.Proofs.Ytamfhommmogknaa
open Go Go.RowKit
set_option linter.unusedVariables false
set_option linter.unusedSimpArgs false
set_option maxRecDepth 100000

/-- The first place where p holds, from place k on. -/
def idxR (p : Int → Bool) : List Int → Nat → Int
  | [], _ => -1
  | x :: r, k => if p x = true then (k : Int) else idxR p r (k + 1)
theorem idx_any (p : Int → Bool) : ∀ (l : List Int) (k : Nat), decide (0 ≤ idxR p l k) = l.any p
  | [], k => by simp [idxR]
  | x :: r, k => by
    rw [List.any_cons]
    by_cases h : p x = true
    · have e : idxR p (x :: r) k = (k : Int) := if_pos h
      rw [e, h]; simp
    · have e : idxR p (x :: r) k = idxR p r (k + 1) := if_neg h
      rw [e, idx_any p r (k + 1)]; simp [h]
theorem idxC_any (l : List Int) (A : Option Addr) (c : Nat) (w : World) {B : Nat} (hl : RdI w B A l) (hc : l.length ≤ c ∧ c ≤ 9223372036854775807) (hB : B ≤ w.heap.size) :
    Calls Try.prog 30 #[.slice A l.length c, .func (Fn.func 24) #[] #[]] w fun e w' => e = .returned (.int .i64 (idxR (fun x => farB x 2147483648) l 0)) ∧ Below w.heap.size w w' := by
  have HL := Lib.hid hl
  have HC := Lib.hid (fun n w => farC_any n w)
  clear hl
  go_enter Try.func30, Try.ntmps30
  go_wp2_with fail
  go_loopw [8] (fun vi wr => ∃ (i : Nat), vi = .int .i64 i ∧ i ≤ l.length ∧ Hid (idxR (fun x => farB x 2147483648) l 0 = idxR (fun x => farB x 2147483648) (l.drop i) i) ∧ Below w.heap.size w wr) (fun vi _ => l.length - (intOf vi).toNat)
  case atStart => exact ⟨0, rfl, Nat.zero_le _, Lib.hid rfl, Below.refl _ _⟩
  case round =>
    obtain ⟨i, rfl, hi, HE, be⟩ := hrel
    by_cases hlt : i < l.length
    · obtain ⟨x, hx⟩ : ∃ x, l[i]? = some x := ⟨_, List.getElem?_eq_getElem hlt⟩
      obtain ⟨b, o, rfl, hb, hcell⟩ := (HL.out.keep (Alike.of_below be hB)).get hx
      have hd : l.drop i = x :: l.drop (i + 1) := by rw [List.drop_eq_getElem_cons hlt]; congr 1; rw [List.getElem?_eq_getElem hlt] at hx; exact Option.some.inj hx
      have HD := Lib.hid (HE.out.trans (by rw [hd]))
      have i1 : (i : Int) < (l.length : Int) := by omega
      clear hx hd HE
      have HC1 := Lib.hid (fun w => HC.out x w)
      obtain ⟨z, hz⟩ : ∃ z, farB x 2147483648 = z := ⟨_, rfl⟩
      rw [hz] at HC1
      cases z
      · have HD2 : Hid (idxR (fun x => farB x 2147483648) l 0 = idxR (fun x => farB x 2147483648) (l.drop (i + 1)) (i + 1)) := Lib.hid (by rw [HD.out]; simp only [idxR]; rw [if_neg (by rw [hz]; decide)])
        clear hz HD
        go_wp2_with fail
        (with_reducible refine (HC1.out _).mono ?_); rintro e v1 ⟨rfl, hb1⟩
        go_wp2_with fail
        go_roundw
        case rel => exact ⟨i + 1, by go_num, by omega, HD2, bl_step be hb1⟩
        case measure => simp only [intOf]; omega
      · have HD2 : Hid (idxR (fun x => farB x 2147483648) l 0 = (i : Int)) := Lib.hid (by rw [HD.out]; simp only [idxR]; rw [if_pos hz])
        clear hz HD
        go_wp2_with fail
        (with_reducible refine (HC1.out _).mono ?_); rintro e v1 ⟨rfl, hb1⟩
        go_wp2
        go_ret
        exact ⟨by rw [HD2.out]; rfl, bl_step be hb1⟩
    · obtain rfl : i = l.length := by omega
      have HD2 : Hid (idxR (fun x => farB x 2147483648) l 0 = -1) := Lib.hid (by rw [HE.out, List.drop_length]; rfl)
      clear HE
      go_wp2
      go_ret
      exact ⟨by rw [HD2.out]; rfl, be⟩
theorem hasC_any (l : List Int) (A : Option Addr) (c : Nat) (w : World) {B : Nat} (hl : RdI w B A l) (hc : l.length ≤ c ∧ c ≤ 9223372036854775807) (hB : B ≤ w.heap.size) :
    Calls Try.prog 23 #[.slice A l.length c, .func (Fn.func 24) #[] #[]] w fun e w' => e = .returned (.bool (l.any fun x => farB x 2147483648)) ∧ Below w.heap.size w w' := by
  have H1 := Lib.hid (idxC_any l A c w hl hc hB)
  rw [← idx_any _ l 0]
  generalize idxR (fun x => farB x 2147483648) l 0 = z at H1 ⊢
  go_enter Try.func23, Try.ntmps23
  go_wp2_with fail
  (with_reducible refine H1.out.mono ?_); rintro e v1 ⟨rfl, hb1⟩
  go_wp2
  go_ret
  exact ⟨rfl, hb1⟩
theorem idxW_any (l : List Int) (A : Option Addr) (c : Nat) (w : World) {B : Nat} (hl : RdI w B A l) (hc : l.length ≤ c ∧ c ≤ 9223372036854775807) (hB : B ≤ w.heap.size) :
    Calls Try.prog 30 #[.slice A l.length c, .func (Fn.func 27) #[] #[]] w fun e w' => e = .returned (.int .i64 (idxR (fun x => farB x 549755813888) l 0)) ∧ Below w.heap.size w w' := by
  have HL := Lib.hid hl
  have HC := Lib.hid (fun n w => farW_any n w)
  clear hl
  go_enter Try.func30, Try.ntmps30
  go_wp2_with fail
  go_loopw [8] (fun vi wr => ∃ (i : Nat), vi = .int .i64 i ∧ i ≤ l.length ∧ Hid (idxR (fun x => farB x 549755813888) l 0 = idxR (fun x => farB x 549755813888) (l.drop i) i) ∧ Below w.heap.size w wr) (fun vi _ => l.length - (intOf vi).toNat)
  case atStart => exact ⟨0, rfl, Nat.zero_le _, Lib.hid rfl, Below.refl _ _⟩
  case round =>
    obtain ⟨i, rfl, hi, HE, be⟩ := hrel
    by_cases hlt : i < l.length
    · obtain ⟨x, hx⟩ : ∃ x, l[i]? = some x := ⟨_, List.getElem?_eq_getElem hlt⟩
      obtain ⟨b, o, rfl, hb, hcell⟩ := (HL.out.keep (Alike.of_below be hB)).get hx
      have hd : l.drop i = x :: l.drop (i + 1) := by rw [List.drop_eq_getElem_cons hlt]; congr 1; rw [List.getElem?_eq_getElem hlt] at hx; exact Option.some.inj hx
      have HD := Lib.hid (HE.out.trans (by rw [hd]))
      have i1 : (i : Int) < (l.length : Int) := by omega
      clear hx hd HE
      have HC1 := Lib.hid (fun w => HC.out x w)
      obtain ⟨z, hz⟩ : ∃ z, farB x 549755813888 = z := ⟨_, rfl⟩
      rw [hz] at HC1
      cases z
      · have HD2 : Hid (idxR (fun x => farB x 549755813888) l 0 = idxR (fun x => farB x 549755813888) (l.drop (i + 1)) (i + 1)) := Lib.hid (by rw [HD.out]; simp only [idxR]; rw [if_neg (by rw [hz]; decide)])
        clear hz HD
        go_wp2_with fail
        (with_reducible refine (HC1.out _).mono ?_); rintro e v1 ⟨rfl, hb1⟩
        go_wp2_with fail
        go_roundw
        case rel => exact ⟨i + 1, by go_num, by omega, HD2, bl_step be hb1⟩
        case measure => simp only [intOf]; omega
      · have HD2 : Hid (idxR (fun x => farB x 549755813888) l 0 = (i : Int)) := Lib.hid (by rw [HD.out]; simp only [idxR]; rw [if_pos hz])
        clear hz HD
        go_wp2_with fail
        (with_reducible refine (HC1.out _).mono ?_); rintro e v1 ⟨rfl, hb1⟩
        go_wp2
        go_ret
        exact ⟨by rw [HD2.out]; rfl, bl_step be hb1⟩
    · obtain rfl : i = l.length := by omega
      have HD2 : Hid (idxR (fun x => farB x 549755813888) l 0 = -1) := Lib.hid (by rw [HE.out, List.drop_length]; rfl)
      clear HE
      go_wp2
      go_ret
      exact ⟨by rw [HD2.out]; rfl, be⟩
theorem hasW_any (l : List Int) (A : Option Addr) (c : Nat) (w : World) {B : Nat} (hl : RdI w B A l) (hc : l.length ≤ c ∧ c ≤ 9223372036854775807) (hB : B ≤ w.heap.size) :
    Calls Try.prog 23 #[.slice A l.length c, .func (Fn.func 27) #[] #[]] w fun e w' => e = .returned (.bool (l.any fun x => farB x 549755813888)) ∧ Below w.heap.size w w' := by
  have H1 := Lib.hid (idxW_any l A c w hl hc hB)
  rw [← idx_any _ l 0]
  generalize idxR (fun x => farB x 549755813888) l 0 = z at H1 ⊢
  go_enter Try.func23, Try.ntmps23
  go_wp2_with fail
  (with_reducible refine H1.out.mono ?_); rintro e v1 ⟨rfl, hb1⟩
  go_wp2
  go_ret
  exact ⟨rfl, hb1⟩
end Go.Proofs.Ytamfhommmogknaa
