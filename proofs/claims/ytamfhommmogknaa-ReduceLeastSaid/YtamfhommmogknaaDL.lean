/- equal, and cut. -/
import Derived.Test.YtamfhommmogknaaDK
namespace Go.Proofs.Ytamfhommmogknaa
open Go Go.RowKit
set_option linter.unusedVariables false
set_option linter.unusedSimpArgs false
set_option maxRecDepth 100000

set_option maxHeartbeats 3200000 in
theorem equal_any (l m : List Int) (A A' : Option Addr) (c c' : Nat) (w : World) {B B' : Nat} (hl : RdI w B A l) (hm : RdI w B' A' m) (hc : l.length ≤ c ∧ c ≤ 9223372036854775807) (hc' : m.length ≤ c' ∧ c' ≤ 9223372036854775807) (hB : B ≤ w.heap.size) (hB' : B' ≤ w.heap.size) :
    Calls Try.prog 12 #[.slice A l.length c, .slice A' m.length c'] w fun e w' => e = .returned (.bool (decide (l = m))) ∧ Below w.heap.size w w' := by
  have HL := Lib.hid hl
  have HM := Lib.hid hm
  clear hl hm
  by_cases hlen : l.length = m.length
  · rw [← hlen]
    have HN := Lib.hid hlen
    clear hlen
    go_enter Try.func12, Try.ntmps12
    go_wp2_with fail
    go_loopw [13] (fun vi wr => ∃ (i : Nat), vi = .int .i64 i ∧ i ≤ l.length ∧ Hid (Below w.heap.size w wr) ∧ Hid (∀ j, j < i → l[j]? = m[j]?)) (fun vi _ => l.length - (intOf vi).toNat)
    case atStart => exact ⟨0, rfl, Nat.zero_le _, Lib.hid (Below.refl _ _), Lib.hid (fun j h => absurd h (by omega))⟩
    case round =>
      obtain ⟨i, rfl, hi, HW, HE⟩ := hrel
      by_cases hlt : i < l.length
      · obtain ⟨x, hx⟩ : ∃ x, l[i]? = some x := ⟨_, List.getElem?_eq_getElem hlt⟩
        obtain ⟨y, hy⟩ : ∃ y, m[i]? = some y := ⟨_, List.getElem?_eq_getElem (by have := HN.out; omega)⟩
        obtain ⟨b, o, rfl, hb, h1⟩ := (HL.out.keep (Alike.of_below HW.out hB)).get hx
        obtain ⟨b2, o2, rfl, hb2, h2⟩ := (HM.out.keep (Alike.of_below HW.out hB')).get hy
        have HX := Lib.hid hx
        have HY := Lib.hid hy
        have i1 : (i : Int) < (l.length : Int) := by omega
        have i0 : (0 : Int) ≤ (i : Int) := by omega
        clear hx hy
        by_cases hxy : x = y
        · subst hxy
          go_wp2_with fail
          go_quiet (skip)
          replace HW := Lib.hid (bl_drewN HW.out nq)
          generalize wr.drewN nq = wq at HW ⊢
          clear h1 h2
          go_wp2_with fail
          go_roundw
          case rel => exact ⟨i + 1, by go_num, by omega, HW, Lib.hid (fun j hj => by
            by_cases h : j < i
            · exact HE.out j h
            · obtain rfl : j = i := by omega
              rw [HX.out, HY.out])⟩
          case measure => simp only [intOf]; omega
        · have e1 : (x == y) = false := by simpa using hxy
          go_wp2_with fail
          go_quiet (skip)
          replace HW := Lib.hid (bl_drewN HW.out nq)
          generalize wr.drewN nq = wq at HW ⊢
          clear h1 h2
          have HD : Hid (decide (l = m) = false) := Lib.hid (by simp; intro e; subst e; rw [HX.out] at HY; exact hxy (Option.some.inj HY.out))
          go_wp2
          go_ret
          exact ⟨by rw [HD.out]; rfl, HW.out⟩
      · obtain rfl : i = l.length := by omega
        have HD : Hid (decide (l = m) = true) := Lib.hid (by
          simp
          apply List.ext_getElem?
          intro j
          by_cases h : j < l.length
          · exact HE.out j h
          · rw [List.getElem?_eq_none (by omega), List.getElem?_eq_none (by have := HN.out; omega)])
        clear hlt hi HE
        go_wp2
        go_ret
        exact ⟨by rw [HD.out]; rfl, HW.out⟩
  · have h1 : (l.length == m.length) = false := by simpa using hlen
    have h2 : ((l.length : Int) == (m.length : Int)) = false := by simp; omega
    have h3 : ¬ (l.length : Int) = (m.length : Int) := by omega
    have HD : Hid (decide (l = m) = false) := Lib.hid (by simp; intro e; subst e; exact hlen rfl)
    go_enter Try.func12, Try.ntmps12
    go_wp2
    go_ret
    exact ⟨by rw [HD.out]; rfl, Below.refl _ _⟩
theorem TabAt.cut {w : World} {B : Nat} {c : List (List Int)} {no : List (List Bool)} {A1 A2 : Option Addr} {c1 c2 : Nat} (h : TabAt w B c no A1 c1 A2 c2) (m n : Nat) : TabAt w B (c.take m) (no.take n) A1 c1 A2 c2 := by
  obtain ⟨vs, a1, a2, a3⟩ := h.cost
  obtain ⟨us, b1, b2, b3⟩ := h.no_
  have ha := a2.cut (k := (c.take m).length) (by simp [List.length_take]; omega)
  have hb := b2.cut (k := (no.take n).length) (by simp [List.length_take]; omega)
  rw [Nat.mul_one] at ha hb
  have N1 := h.n1
  have N2 := h.n2
  refine ⟨⟨vs.take (c.take m).length, by simp [List.length_take, a1], ha, fun i r u hr hu => ?_⟩, ⟨us.take (no.take n).length, by simp [List.length_take, b1], hb, fun i r u hr hu => ?_⟩, ⟨by rw [List.length_take]; omega, N1.2⟩, ⟨by rw [List.length_take]; omega, N2.2⟩, fun r hr => h.in_ r (List.mem_of_mem_take hr), h.bd⟩
  · rw [List.getElem?_take] at hr hu
    split at hr
    · split at hu
      · exact a3 i r u hr hu
      · cases hu
    · cases hr
  · rw [List.getElem?_take] at hr hu
    split at hr
    · split at hu
      · exact b3 i r u hr hu
      · cases hu
    · cases hr
set_option maxHeartbeats 3200000 in
theorem cut_any (c : List (List Int)) (no : List (List Bool)) (A1 A2 : Option Addr) (c1 c2 : Nat) (w : World) (h1 : c.length ≤ c1 ∧ c1 ≤ 9223372036854775807) (h2 : no.length ≤ c2 ∧ c2 ≤ 9223372036854775807) :
    Calls Try.prog 6 #[.slice A1 c.length c1, .slice A2 no.length c2] w fun e w' => e = .returned (.tuple #[.slice A1 (c.take 70).length c1, .slice A2 (no.take 70).length c2]) ∧ Below w.heap.size w w' := by
  obtain ⟨m, hm⟩ : ∃ m, (c.take 70).length = m := ⟨_, rfl⟩
  obtain ⟨n, hn⟩ : ∃ n, (no.take 70).length = n := ⟨_, rfl⟩
  have E1 : (if (70 : Int) < (c.length : Int) then (70 : Int) else (c.length : Int)) = (m : Int) := by rw [List.length_take] at hm; split <;> omega
  have E2 : (if (70 : Int) < (no.length : Int) then (70 : Int) else (no.length : Int)) = (n : Int) := by rw [List.length_take] at hn; split <;> omega
  have B1 : m ≤ c.length := by rw [List.length_take] at hm; omega
  have B2 : n ≤ no.length := by rw [List.length_take] at hn; omega
  rw [hm, hn]
  clear hm hn
  go_enter Try.func6, Try.ntmps6
  go_wp2_with fail
  go_quiet (skip)
  go_wp2
  go_ret2
  exact ⟨rfl, bl_drewN (Below.refl _ _) nq⟩
end Go.Proofs.Ytamfhommmogknaa
