/- The walks of instances, part I: which lists are the same. -/
import Derived.Test.YtklomjpnmmaogaaDoorIC
namespace Go.Proofs.YtklomjpnmmaogaaDoor
open Go.RowKit
set_option linter.unusedVariables false
set_option linter.unusedSimpArgs false
set_option maxRecDepth 100000

theorem drop_two {α : Type} {l m : List α} {i : Nat} {x y : α} (hx : l[i]? = some x) (hy : m[i]? = some y) : (l.drop i = m.drop i) ↔ (x = y ∧ l.drop (i + 1) = m.drop (i + 1)) := by
  rw [drop_get hx, drop_get hy]
  simp
theorem drop_end {α : Type} {l m : List α} (h : l.length = m.length) : l.drop l.length = m.drop l.length := by rw [List.drop_length, h, List.drop_length]
set_option maxHeartbeats 3200000 in
theorem eqi_any (l m : List Int) (A A' : Option Addr) (c c' : Nat) (w : World) {B : Nat} (hl : RdI w B A l) (hm : RdI w B A' m) (hc : l.length ≤ c ∧ c ≤ 9223372036854775807) (hc' : m.length ≤ c' ∧ c' ≤ 9223372036854775807) (hB : B ≤ w.heap.size) :
    Calls Tryd.prog 37 #[.slice A l.length c, .slice A' m.length c'] w fun e w' => e = .returned (.bool (decide (l = m))) ∧ Below w.heap.size w w' := by
  have HLL := Lib.hid hl
  have HMM := Lib.hid hm
  clear hl hm
  by_cases hn : l.length = m.length
  · have HN := Lib.hid hn
    have j1 : (l.length == m.length) = true := by simp; omega
    have j2 : ((l.length : Int) == (m.length : Int)) = true := by rw [beq_iff_eq]; omega
    have j3 : (l.length != m.length) = false := by simp; omega
    have j4 : ((l.length : Int) != (m.length : Int)) = false := by rw [bne_eq_false_iff_eq]; omega
    clear hn
    go_enter Tryd.func37, Tryd.ntmps37
    go_wp2_with fail
    go_loopw [13] (fun vi wr => ∃ i : Nat, vi = .int .i64 i ∧ i ≤ l.length ∧ Hid (l = m ↔ l.drop i = m.drop i) ∧ Below w.heap.size w wr) (fun vi _ => l.length - (intOf vi).toNat)
    case atStart => exact ⟨0, rfl, Nat.zero_le _, Lib.hid (by simp), Below.refl _ _⟩
    case round =>
      obtain ⟨i, rfl, hi, HE, be⟩ := hrel
      by_cases hlt : i < l.length
      · obtain ⟨x, hx⟩ : ∃ x, l[i]? = some x := ⟨_, List.getElem?_eq_getElem hlt⟩
        obtain ⟨y, hy⟩ : ∃ y, m[i]? = some y := ⟨_, List.getElem?_eq_getElem (by have := HN.out; omega)⟩
        have hk := Alike.of_below be hB
        obtain ⟨g, o, rfl, hb, hcx⟩ := (HLL.out.keep hk).get hx
        obtain ⟨g', o', rfl, hb', hcy⟩ := (HMM.out.keep hk).get hy
        have h2 := drop_two hx hy
        have i0 : (0 : Int) ≤ (i : Int) := by omega
        have i1 : (i : Int) < (l.length : Int) := by omega
        have i2 : (i : Int) < (m.length : Int) := by have := HN.out; omega
        have i3 : i < m.length := by omega
        by_cases hxy : x = y
        · have HE2 : Hid (l = m ↔ l.drop (i + 1) = m.drop (i + 1)) := Lib.hid (by rw [HE.out, h2]; simp [hxy])
          have q1 : (x != y) = false := by simpa using hxy
          have q2 : (x == y) = true := by simpa using hxy
          clear h2 hx hy hxy hk
          go_wp2_with fail
          go_quiet (fail)
          go_wp2_with fail
          go_roundw
          case rel => exact ⟨i + 1, by go_num, by omega, HE2, bl_drewN be _⟩
          case measure => simp only [intOf]; omega
        · have HF : Hid (¬ l = m) := Lib.hid (by rw [HE.out, h2]; exact fun h => hxy h.1)
          have q1 : (x != y) = true := by simpa using hxy
          have q2 : (x == y) = false := by simpa using hxy
          clear h2 hx hy hxy hk
          go_wp2_with fail
          go_quiet (fail)
          go_wp2
          go_ret
          exact ⟨by rw [decide_eq_false HF.out]; rfl, bl_drewN be _⟩
      · obtain rfl : i = l.length := by omega
        have HT : Hid (l = m) := Lib.hid (HE.out.2 (drop_end HN.out))
        go_wp2
        go_ret
        exact ⟨by rw [decide_eq_true HT.out]; rfl, be⟩
  · have HN : Hid (¬ l = m) := Lib.hid (fun h => hn (by rw [h]))
    have j1 : (l.length == m.length) = false := by simp; omega
    have j2 : ((l.length : Int) == (m.length : Int)) = false := by rw [beq_eq_false_iff_ne]; omega
    have j3 : (l.length != m.length) = true := by simp; omega
    have j4 : ((l.length : Int) != (m.length : Int)) = true := by rw [bne_iff_ne]; omega
    clear hn
    go_enter Tryd.func37, Tryd.ntmps37
    go_wp2
    go_ret
    exact ⟨by rw [decide_eq_false HN.out]; rfl, Below.refl _ _⟩
set_option maxHeartbeats 3200000 in
theorem eqn_any (l m : List Int) (A A' : Option Addr) (c c' : Nat) (w : World) {B : Nat} (hl : RdI w B A l) (hm : RdI w B A' m) (hc : l.length ≤ c ∧ c ≤ 9223372036854775807) (hc' : m.length ≤ c' ∧ c' ≤ 9223372036854775807) (hB : B ≤ w.heap.size) :
    Calls Tryd.prog 66 #[.slice A l.length c, .slice A' m.length c'] w fun e w' => e = .returned (.bool (decide (l = m))) ∧ Below w.heap.size w w' := by
  have HLL := Lib.hid hl
  have HMM := Lib.hid hm
  clear hl hm
  by_cases hn : l.length = m.length
  · have HN := Lib.hid hn
    have j1 : (l.length == m.length) = true := by simp; omega
    have j2 : ((l.length : Int) == (m.length : Int)) = true := by rw [beq_iff_eq]; omega
    have j3 : (l.length != m.length) = false := by simp; omega
    have j4 : ((l.length : Int) != (m.length : Int)) = false := by rw [bne_eq_false_iff_eq]; omega
    clear hn
    go_enter Tryd.func66, Tryd.ntmps66
    go_wp2_with fail
    go_loopw [13] (fun vi wr => ∃ i : Nat, vi = .int .i64 i ∧ i ≤ l.length ∧ Hid (l = m ↔ l.drop i = m.drop i) ∧ Below w.heap.size w wr) (fun vi _ => l.length - (intOf vi).toNat)
    case atStart => exact ⟨0, rfl, Nat.zero_le _, Lib.hid (by simp), Below.refl _ _⟩
    case round =>
      obtain ⟨i, rfl, hi, HE, be⟩ := hrel
      by_cases hlt : i < l.length
      · obtain ⟨x, hx⟩ : ∃ x, l[i]? = some x := ⟨_, List.getElem?_eq_getElem hlt⟩
        obtain ⟨y, hy⟩ : ∃ y, m[i]? = some y := ⟨_, List.getElem?_eq_getElem (by have := HN.out; omega)⟩
        have hk := Alike.of_below be hB
        obtain ⟨g, o, rfl, hb, hcx⟩ := (HLL.out.keep hk).get hx
        obtain ⟨g', o', rfl, hb', hcy⟩ := (HMM.out.keep hk).get hy
        have h2 := drop_two hx hy
        have i0 : (0 : Int) ≤ (i : Int) := by omega
        have i1 : (i : Int) < (l.length : Int) := by omega
        have i2 : (i : Int) < (m.length : Int) := by have := HN.out; omega
        have i3 : i < m.length := by omega
        by_cases hxy : x = y
        · have HE2 : Hid (l = m ↔ l.drop (i + 1) = m.drop (i + 1)) := Lib.hid (by rw [HE.out, h2]; simp [hxy])
          have q1 : (x != y) = false := by simpa using hxy
          have q2 : (x == y) = true := by simpa using hxy
          clear h2 hx hy hxy hk
          go_wp2_with fail
          go_quiet (fail)
          go_wp2_with fail
          go_roundw
          case rel => exact ⟨i + 1, by go_num, by omega, HE2, bl_drewN be _⟩
          case measure => simp only [intOf]; omega
        · have HF : Hid (¬ l = m) := Lib.hid (by rw [HE.out, h2]; exact fun h => hxy h.1)
          have q1 : (x != y) = true := by simpa using hxy
          have q2 : (x == y) = false := by simpa using hxy
          clear h2 hx hy hxy hk
          go_wp2_with fail
          go_quiet (fail)
          go_wp2
          go_ret
          exact ⟨by rw [decide_eq_false HF.out]; rfl, bl_drewN be _⟩
      · obtain rfl : i = l.length := by omega
        have HT : Hid (l = m) := Lib.hid (HE.out.2 (drop_end HN.out))
        go_wp2
        go_ret
        exact ⟨by rw [decide_eq_true HT.out]; rfl, be⟩
  · have HN : Hid (¬ l = m) := Lib.hid (fun h => hn (by rw [h]))
    have j1 : (l.length == m.length) = false := by simp; omega
    have j2 : ((l.length : Int) == (m.length : Int)) = false := by rw [beq_eq_false_iff_ne]; omega
    have j3 : (l.length != m.length) = true := by simp; omega
    have j4 : ((l.length : Int) != (m.length : Int)) = true := by rw [bne_iff_ne]; omega
    clear hn
    go_enter Tryd.func66, Tryd.ntmps66
    go_wp2
    go_ret
    exact ⟨by rw [decide_eq_false HN.out]; rfl, Below.refl _ _⟩
set_option maxHeartbeats 3200000 in
theorem bints_any (l m : List Int) (A A' : Option Addr) (c c' : Nat) (w : World) {B : Nat} (hl : RdI w B A l) (hm : RdI w B A' m) (hc : l.length ≤ c ∧ c ≤ 9223372036854775807) (hc' : m.length ≤ c' ∧ c' ≤ 9223372036854775807) (hB : B ≤ w.heap.size) :
    Calls Tryd.prog 60 #[.slice A l.length c, .slice A' m.length c'] w fun e w' => e = .returned (.bool (decide (l = m))) ∧ Below w.heap.size w w' := by
  have HLL := Lib.hid hl
  have HMM := Lib.hid hm
  clear hl hm
  by_cases hn : l.length = m.length
  · have HN := Lib.hid hn
    have j1 : (l.length == m.length) = true := by simp; omega
    have j2 : ((l.length : Int) == (m.length : Int)) = true := by rw [beq_iff_eq]; omega
    have j3 : (l.length != m.length) = false := by simp; omega
    have j4 : ((l.length : Int) != (m.length : Int)) = false := by rw [bne_eq_false_iff_eq]; omega
    clear hn
    go_enter Tryd.func60, Tryd.ntmps60
    go_wp2_with fail
    go_loopw [5] (fun vi wr => ∃ i : Nat, vi = .int .i64 i ∧ i ≤ l.length ∧ Hid (l = m ↔ l.drop i = m.drop i) ∧ Below w.heap.size w wr) (fun vi _ => l.length - (intOf vi).toNat)
    case atStart => exact ⟨0, rfl, Nat.zero_le _, Lib.hid (by simp), Below.refl _ _⟩
    case round =>
      obtain ⟨i, rfl, hi, HE, be⟩ := hrel
      by_cases hlt : i < l.length
      · obtain ⟨x, hx⟩ : ∃ x, l[i]? = some x := ⟨_, List.getElem?_eq_getElem hlt⟩
        obtain ⟨y, hy⟩ : ∃ y, m[i]? = some y := ⟨_, List.getElem?_eq_getElem (by have := HN.out; omega)⟩
        have hk := Alike.of_below be hB
        obtain ⟨g, o, rfl, hb, hcx⟩ := (HLL.out.keep hk).get hx
        obtain ⟨g', o', rfl, hb', hcy⟩ := (HMM.out.keep hk).get hy
        have h2 := drop_two hx hy
        have i0 : (0 : Int) ≤ (i : Int) := by omega
        have i1 : (i : Int) < (l.length : Int) := by omega
        have i2 : (i : Int) < (m.length : Int) := by have := HN.out; omega
        have i3 : i < m.length := by omega
        by_cases hxy : x = y
        · have HE2 : Hid (l = m ↔ l.drop (i + 1) = m.drop (i + 1)) := Lib.hid (by rw [HE.out, h2]; simp [hxy])
          have q1 : (x != y) = false := by simpa using hxy
          have q2 : (x == y) = true := by simpa using hxy
          clear h2 hx hy hxy hk
          go_wp2_with fail
          go_quiet (fail)
          go_wp2_with fail
          go_roundw
          case rel => exact ⟨i + 1, by go_num, by omega, HE2, bl_drewN be _⟩
          case measure => simp only [intOf]; omega
        · have HF : Hid (¬ l = m) := Lib.hid (by rw [HE.out, h2]; exact fun h => hxy h.1)
          have q1 : (x != y) = true := by simpa using hxy
          have q2 : (x == y) = false := by simpa using hxy
          clear h2 hx hy hxy hk
          go_wp2_with fail
          go_quiet (fail)
          go_wp2
          go_ret
          exact ⟨by rw [decide_eq_false HF.out]; rfl, bl_drewN be _⟩
      · obtain rfl : i = l.length := by omega
        have HT : Hid (l = m) := Lib.hid (HE.out.2 (drop_end HN.out))
        go_wp2
        go_ret
        exact ⟨by rw [decide_eq_true HT.out]; rfl, be⟩
  · have HN : Hid (¬ l = m) := Lib.hid (fun h => hn (by rw [h]))
    have j1 : (l.length == m.length) = false := by simp; omega
    have j2 : ((l.length : Int) == (m.length : Int)) = false := by rw [beq_eq_false_iff_ne]; omega
    have j3 : (l.length != m.length) = true := by simp; omega
    have j4 : ((l.length : Int) != (m.length : Int)) = true := by rw [bne_iff_ne]; omega
    clear hn
    go_enter Tryd.func60, Tryd.ntmps60
    go_wp2
    go_ret
    exact ⟨by rw [decide_eq_false HN.out]; rfl, Below.refl _ _⟩
set_option maxHeartbeats 3200000 in
theorem eqp_any (l m : List (Int × Int)) (A A' : Option Addr) (c c' : Nat) (w : World) {B : Nat} (hl : RdP w B A l) (hm : RdP w B A' m) (hc : l.length ≤ c ∧ c ≤ 9223372036854775807) (hc' : m.length ≤ c' ∧ c' ≤ 9223372036854775807) (hB : B ≤ w.heap.size) :
    Calls Tryd.prog 35 #[.slice A l.length c, .slice A' m.length c'] w fun e w' => e = .returned (.bool (decide (l = m))) ∧ Below w.heap.size w w' := by
  have HLL := Lib.hid hl
  have HMM := Lib.hid hm
  clear hl hm
  by_cases hn : l.length = m.length
  · have HN := Lib.hid hn
    have j1 : (l.length == m.length) = true := by simp; omega
    have j2 : ((l.length : Int) == (m.length : Int)) = true := by rw [beq_iff_eq]; omega
    have j3 : (l.length != m.length) = false := by simp; omega
    have j4 : ((l.length : Int) != (m.length : Int)) = false := by rw [bne_eq_false_iff_eq]; omega
    clear hn
    go_enter Tryd.func35, Tryd.ntmps35
    go_wp2_with fail
    go_loopw [13] (fun vi wr => ∃ i : Nat, vi = .int .i64 i ∧ i ≤ l.length ∧ Hid (l = m ↔ l.drop i = m.drop i) ∧ Below w.heap.size w wr) (fun vi _ => l.length - (intOf vi).toNat)
    case atStart => exact ⟨0, rfl, Nat.zero_le _, Lib.hid (by simp), Below.refl _ _⟩
    case round =>
      obtain ⟨i, rfl, hi, HE, be⟩ := hrel
      by_cases hlt : i < l.length
      · obtain ⟨x, hx⟩ : ∃ x, l[i]? = some x := ⟨_, List.getElem?_eq_getElem hlt⟩
        obtain ⟨y, hy⟩ : ∃ y, m[i]? = some y := ⟨_, List.getElem?_eq_getElem (by have := HN.out; omega)⟩
        have hk := Alike.of_below be hB
        obtain ⟨g, o, rfl, hb, hcx, hcx2⟩ := (HLL.out.keep hk).get hx
        obtain ⟨g', o', rfl, hb', hcy, hcy2⟩ := (HMM.out.keep hk).get hy
        have h2 := drop_two hx hy
        have i0 : (0 : Int) ≤ (i : Int) := by omega
        have i1 : (i : Int) < (l.length : Int) := by omega
        have i2 : (i : Int) < (m.length : Int) := by have := HN.out; omega
        have i3 : i < m.length := by omega
        by_cases hxy : x = y
        · have HE2 : Hid (l = m ↔ l.drop (i + 1) = m.drop (i + 1)) := Lib.hid (by rw [HE.out, h2]; simp [hxy])
          subst hxy
          clear h2 hx hy hk
          go_wp2_with fail
          go_quiet (fail)
          go_wp2_with fail
          go_roundw
          case rel => exact ⟨i + 1, by go_num, by omega, HE2, bl_drewN be _⟩
          case measure => simp only [intOf]; omega
        · have HF : Hid (¬ l = m) := Lib.hid (by rw [HE.out, h2]; exact fun h => hxy h.1)
          clear h2 hx hy hk
          by_cases h1 : x.1 = y.1
          · have h2 : ¬ x.2 = y.2 := fun h => hxy (Prod.ext h1 h)
            have q1 : (x.1 == y.1) = true := by simpa using h1
            have q2 : (x.2 == y.2) = false := by simpa using h2
            have q3 : (x.1 != y.1) = false := by simpa using h1
            have q4 : (x.2 != y.2) = true := by simpa using h2
            clear hxy h1 h2
            go_wp2_with fail
            go_quiet (fail)
            go_wp2
            go_ret
            exact ⟨by rw [decide_eq_false HF.out]; rfl, bl_drewN be _⟩
          · have q1 : (x.1 == y.1) = false := by simpa using h1
            have q3 : (x.1 != y.1) = true := by simpa using h1
            clear hxy h1
            go_wp2_with fail
            go_quiet (fail)
            go_wp2
            go_ret
            exact ⟨by rw [decide_eq_false HF.out]; rfl, bl_drewN be _⟩
      · obtain rfl : i = l.length := by omega
        have HT : Hid (l = m) := Lib.hid (HE.out.2 (drop_end HN.out))
        go_wp2
        go_ret
        exact ⟨by rw [decide_eq_true HT.out]; rfl, be⟩
  · have HN : Hid (¬ l = m) := Lib.hid (fun h => hn (by rw [h]))
    have j1 : (l.length == m.length) = false := by simp; omega
    have j2 : ((l.length : Int) == (m.length : Int)) = false := by rw [beq_eq_false_iff_ne]; omega
    have j3 : (l.length != m.length) = true := by simp; omega
    have j4 : ((l.length : Int) != (m.length : Int)) = true := by rw [bne_iff_ne]; omega
    clear hn
    go_enter Tryd.func35, Tryd.ntmps35
    go_wp2
    go_ret
    exact ⟨by rw [decide_eq_false HN.out]; rfl, Below.refl _ _⟩
end Go.Proofs.YtklomjpnmmaogaaDoor
