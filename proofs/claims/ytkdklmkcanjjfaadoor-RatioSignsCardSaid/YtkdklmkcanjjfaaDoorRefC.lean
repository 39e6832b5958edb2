/- The walks of the reference for layer 1, part C: which one is the greater. -/
import Derived.Test.YtkdklmkcanjjfaaDoorRefB
namespace Go.Proofs.YtkdklmkcanjjfaaDoor
open Go.RowKit
set_option linter.unusedVariables false
set_option linter.unusedSimpArgs false
set_option maxRecDepth 100000

theorem far_less (z1 z2 : Int) (h : z1.natAbs < z2.natAbs) : cmp3 (z1.natAbs : Int) (z2.natAbs : Int) = -1 := by rw [cmp3, if_pos (by omega)]
theorem far_more (z1 z2 : Int) (h : z2.natAbs < z1.natAbs) : cmp3 (z1.natAbs : Int) (z2.natAbs : Int) = 1 := by rw [cmp3, if_neg (by omega), if_neg (by omega)]
theorem far_same (z1 z2 : Int) (h : z2.natAbs = z1.natAbs) : cmp3 (z1.natAbs : Int) (z2.natAbs : Int) = 0 := by rw [cmp3, if_neg (by omega), if_pos (by omega)]

/-- Above place i both have the same digits. -/
structure FarIn (a b : List Nat) (i : Int) : Prop where
  out : a.drop (i + 1).toNat = b.drop (i + 1).toNat
theorem far_start (a b : List Nat) (h : a.length = b.length) : FarIn a b ((a.length : Int) - 1) := ⟨by
  rw [show ((a.length : Int) - 1 + 1).toNat = a.length by omega, List.drop_of_length_le (Nat.le_refl _), List.drop_of_length_le (by omega)]⟩
theorem far_end (a b : List Nat) (h : FarIn a b (-1)) : dval a = dval b := by have := h.out; simpa using congrArg dval this
theorem far_step (a b : List Nat) (j : Nat) (h1 : j < a.length) (h2 : j < b.length) (hl : a.length = b.length) (ha : Digs a) (hb : Digs b) (hF : FarIn a b (j : Int)) :
    (a[j] < b[j] → dval a < dval b) ∧ (b[j] < a[j] → dval b < dval a) ∧ (a[j] = b[j] → FarIn a b ((j : Int) - 1)) := by
  have e := hF.out
  rw [show ((j : Int) + 1).toNat = j + 1 by omega] at e
  refine ⟨fun h => dval_cmp a b ha hb hl j h1 e h, fun h => dval_cmp b a hb ha hl.symm j h2 e.symm h, fun h => ⟨?_⟩⟩
  rw [show ((j : Int) - 1 + 1).toNat = j by omega, List.drop_eq_getElem_cons h1, List.drop_eq_getElem_cons h2, e, h]
set_option maxHeartbeats 3200000 in
theorem far_any (n1 n2 : Bool) (A1 A2 : Option Addr) (m1 m2 c1 c2 : Nat) (z1 z2 : Int) (w : World) (h1 : BigV w n1 A1 m1 c1 z1) (h2 : BigV w n2 A2 m2 c2 z2) :
    Calls Tryd.prog 77 #[.agg #[.bool n1, .slice A1 m1 c1], .agg #[.bool n2, .slice A2 m2 c2]] w fun e w' => e = .returned (.int .i64 (cmp3 (z1.natAbs : Int) (z2.natAbs : Int))) ∧ Below w.heap.size w w' := by
  obtain ⟨ds1, D1, L1, -, E1⟩ := h1.out
  obtain ⟨ds2, D2, L2, -, E2⟩ := h2.out
  obtain rfl := D1.len
  obtain rfl := D2.len
  have x1 := D1.cap
  have x2 := D2.cap
  have y1 := D1.capm
  have y2 := D2.capm
  rw [← E1, ← E2]
  clear E1 E2
  by_cases hl : ds1.length = ds2.length
  · have hl1 : (ds1.length != ds2.length) = false := by simp [hl]
    have HL := Lib.hid hl
    clear hl
    go_enter Tryd.func77, Tryd.ntmps77
    go_wp2_with fail
    go_loopw [5] (fun v wr => ∃ i : Int, v = .int .i64 i ∧ -1 ≤ i ∧ i < ds1.length ∧ FarIn ds1 ds2 i ∧ Below ((w.alloc (.cells #[.bool n1, .slice A1 ds1.length c1] 59)).alloc (.cells #[.bool n2, .slice A2 ds2.length c2] 59)).heap.size ((w.alloc (.cells #[.bool n1, .slice A1 ds1.length c1] 59)).alloc (.cells #[.bool n2, .slice A2 ds2.length c2] 59)) wr) (fun v _ => (intOf v + 1).toNat)
    case atStart => exact ⟨_, rfl, by omega, by omega, far_start ds1 ds2 HL.out, Below.refl _ _⟩
    case round =>
      obtain ⟨i, rfl, hi1, hi2, hF, be⟩ := hrel
      obtain ⟨hcw, hfw⟩ := bcell be
      by_cases h0 : 0 ≤ i
      · obtain ⟨j, rfl⟩ := Int.eq_ofNat_of_zero_le h0
        have hj1 : j < ds1.length := by omega
        have hj2 : j < ds2.length := by have := HL.out; omega
        have hB1 : Below w.heap.size w wr := bl_step (bl_alloc (bl_alloc (Below.refl _ _) _) _) be
        obtain ⟨ad1, rfl, g1⟩ := (D1.below hB1).rd.at_ j (by rw [dvs_length]; exact hj1)
        obtain ⟨ad2, rfl, g2⟩ := (D2.below hB1).rd.at_ j (by rw [dvs_length]; exact hj2)
        rw [dvs_get ds1 j hj1] at g1
        rw [dvs_get ds2 j hj2] at g2
        have hcmp := far_step ds1 ds2 j hj1 hj2 HL.out D1.digs D2.digs hF
        generalize ds1[j] = d1 at g1 hcmp
        generalize ds2[j] = d2 at g2 hcmp
        have HC := Lib.hid hcmp
        clear hcmp
        by_cases c1 : d1 < d2
        · have c1' : (d1 : Int) < (d2 : Int) := by omega
          go_wp2_with fail
          go_quiet (fail)
          go_wp2
          go_ret
          refine ⟨?_, bl_drewN hB1 _⟩
          have := HC.out.1 c1
          rw [cmp3, if_pos (by omega)]; rfl
        · by_cases c2 : d2 < d1
          · have c2' : (d2 : Int) < (d1 : Int) := by omega
            have c1' : ¬ (d1 : Int) < (d2 : Int) := by omega
            have c1'' : decide ((d1 : Int) < (d2 : Int)) = false := decide_eq_false c1'
            go_wp2_with fail
            go_quiet (fail)
            go_wp2_with fail
            go_quiet (fail)
            go_wp2
            go_ret
            refine ⟨?_, bl_drewN (bl_drewN hB1 _) _⟩
            have := HC.out.2.1 c2
            rw [cmp3, if_neg (by omega), if_neg (by omega)]; rfl
          · have c1'' : decide ((d1 : Int) < (d2 : Int)) = false := decide_eq_false (by omega)
            have c2'' : decide ((d2 : Int) < (d1 : Int)) = false := decide_eq_false (by omega)
            go_wp2_with fail
            go_quiet (fail)
            go_wp2_with fail
            go_quiet (fail)
            go_wp2
            go_roundw
            case rel => exact ⟨_, rfl, by omega, by omega, HC.out.2.2 (by omega), bl_drewN be _⟩
            case measure => simp only [intOf]; omega
      · go_wp2
        go_ret
        refine ⟨?_, bl_step (bl_alloc (bl_alloc (Below.refl _ _) _) _) be⟩
        have hi : i = -1 := by omega
        subst hi
        have := far_end ds1 ds2 hF
        rw [cmp3, if_neg (by omega), if_pos (by omega)]; rfl
  · have hl1 : (ds1.length != ds2.length) = true := by simp [hl]
    by_cases hlt : ds1.length < ds2.length
    · clear hl
      go_enter Tryd.func77, Tryd.ntmps77
      go_wp2
      go_ret
      refine ⟨?_, bl_alloc (bl_alloc (Below.refl _ _) _) _⟩
      have := dval_len_lt ds1 ds2 D1.digs L2 hlt
      rw [cmp3, if_pos (by omega)]; rfl
    · have hgt : ds2.length < ds1.length := by omega
      clear hl
      go_enter Tryd.func77, Tryd.ntmps77
      go_wp2
      go_ret
      refine ⟨?_, bl_alloc (bl_alloc (Below.refl _ _) _) _⟩
      have := dval_len_lt ds2 ds1 D2.digs L1 hgt
      rw [cmp3, if_neg (by omega), if_neg (by omega)]; rfl
end Go.Proofs.YtkdklmkcanjjfaaDoor
