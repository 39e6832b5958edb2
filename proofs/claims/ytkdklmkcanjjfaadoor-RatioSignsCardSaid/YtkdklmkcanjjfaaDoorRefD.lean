/- The walks of the reference for layer 1, part D: Cmp, Opposite, Short. -/
import Derived.Test.YtkdklmkcanjjfaaDoorRefC
namespace Go.Proofs.YtkdklmkcanjjfaaDoor
open Go.RowKit
set_option linter.unusedVariables false
set_option linter.unusedSimpArgs false
set_option maxRecDepth 100000

theorem BigV.pos {w : World} {A : Option Addr} {m c : Nat} {z : Int} (h : BigV w false A m c z) : 0 ≤ z := by
  obtain ⟨_, _, _, e, _⟩ := h.out
  have := of_decide_eq_false e.symm; omega
theorem BigV.neg_ {w : World} {A : Option Addr} {m c : Nat} {z : Int} (h : BigV w true A m c z) : z < 0 := by
  obtain ⟨_, _, _, e, _⟩ := h.out
  exact of_decide_eq_true e.symm
theorem cmp3_neg (x y : Int) : -(cmp3 x y) = cmp3 y x := by
  unfold cmp3
  by_cases c1 : x < y
  · rw [if_pos c1, if_neg (by omega), if_neg (by omega)]; rfl
  · by_cases c2 : x = y
    · rw [if_neg c1, if_pos c2, if_neg (by omega), if_pos (by omega)]; rfl
    · rw [if_neg c1, if_neg c2, if_pos (by omega)]

set_option maxHeartbeats 1600000 in
theorem Cmp_any (n1 n2 : Bool) (A1 A2 : Option Addr) (m1 m2 c1 c2 : Nat) (z1 z2 : Int) (w : World) (h1 : BigV w n1 A1 m1 c1 z1) (h2 : BigV w n2 A2 m2 c2 z2) :
    Calls Tryd.prog 67 #[.agg #[.bool n1, .slice A1 m1 c1], .agg #[.bool n2, .slice A2 m2 c2]] w fun e w' => e = .returned (.int .i64 (cmp3 z1 z2)) ∧ Below w.heap.size w w' := by
  have HF := Lib.hid (fun W (hw : Below w.heap.size w W) => far_any n1 n2 A1 A2 m1 m2 c1 c2 z1 z2 W (h1.below hw) (h2.below hw))
  cases n1 <;> cases n2
  · have p1 := h1.pos
    have p2 := h2.pos
    go_enter Tryd.func67, Tryd.ntmps67
    go_wp2_with fail
    refine (HF.out _ (bl_alloc (bl_alloc (Below.refl _ _) _) _)).mono ?_; rintro e w1 ⟨rfl, hb1⟩
    obtain ⟨hc1, hf1⟩ := bcell hb1
    go_wp2
    go_ret
    refine ⟨?_, bl_step (bl_alloc (bl_alloc (Below.refl _ _) _) _) hb1⟩
    show Ending.returned (.int .i64 (cmp3 (z1.natAbs : Int) (z2.natAbs : Int))) = _
    rw [show (z1.natAbs : Int) = z1 by omega, show (z2.natAbs : Int) = z2 by omega]
  · have p1 := h1.pos
    have p2 := h2.neg_
    go_enter Tryd.func67, Tryd.ntmps67
    go_wp2
    go_ret
    refine ⟨?_, bl_alloc (bl_alloc (Below.refl _ _) _) _⟩
    rw [cmp3, if_neg (by omega), if_neg (by omega)]; rfl
  · have p1 := h1.neg_
    have p2 := h2.pos
    go_enter Tryd.func67, Tryd.ntmps67
    go_wp2
    go_ret
    refine ⟨?_, bl_alloc (bl_alloc (Below.refl _ _) _) _⟩
    rw [cmp3, if_pos (by omega)]; rfl
  · have p1 := h1.neg_
    have p2 := h2.neg_
    have hlo : -1 ≤ cmp3 (z1.natAbs : Int) (z2.natAbs : Int) := by unfold cmp3; split <;> (try split) <;> omega
    have hhi : cmp3 (z1.natAbs : Int) (z2.natAbs : Int) ≤ 1 := by unfold cmp3; split <;> (try split) <;> omega
    go_enter Tryd.func67, Tryd.ntmps67
    go_wp2_with fail
    refine (HF.out _ (bl_alloc (bl_alloc (Below.refl _ _) _) _)).mono ?_; rintro e w1 ⟨rfl, hb1⟩
    obtain ⟨hc1, hf1⟩ := bcell hb1
    go_wp2
    go_ret
    refine ⟨?_, bl_step (bl_alloc (bl_alloc (Below.refl _ _) _) _) hb1⟩
    show Ending.returned (.int .i64 (-(cmp3 (z1.natAbs : Int) (z2.natAbs : Int)))) = _
    rw [cmp3_neg, show (z1.natAbs : Int) = -z1 by omega, show (z2.natAbs : Int) = -z2 by omega]
    congr 2
    unfold cmp3
    by_cases c1 : z1 < z2
    · rw [if_pos c1, if_pos (by omega)]
    · by_cases c2 : z1 = z2
      · rw [if_neg c1, if_pos c2, if_neg (by omega), if_pos (by omega)]
      · rw [if_neg c1, if_neg c2, if_neg (by omega), if_neg (by omega)]

set_option maxHeartbeats 1600000 in
theorem Opposite_any (n : Bool) (A : Option Addr) (m c : Nat) (z : Int) (w : World) (h : BigV w n A m c z) :
    Calls Tryd.prog 42 #[.agg #[.bool n, .slice A m c]] w (RetBig (-z) w) := by
  obtain ⟨ds, hd, hl, hn, hv⟩ := h.out
  have hs : sval (!n) ds = -z := by
    unfold sval; rw [hv, hn]
    by_cases hz : z < 0 <;> simp [hz] <;> omega
  have HT := Lib.hid (fun W (hw : Below w.heap.size w W) => hs ▸ trim_any (!n) A m c ds W ⟨hd.len, hd.cap, hd.capm, hd.digs, hd.rd.below hw⟩)
  clear hs hv hn h
  go_enter Tryd.func42, Tryd.ntmps42
  go_wp2_with fail
  refine (HT.out _ (bl_alloc (bl_alloc (Below.refl _ _) _) _)).mono ?_; rintro e w1 ⟨n2, A2, m2, c2, rfl, k2, hb1⟩
  obtain ⟨hc1, hf1⟩ := bcell hb1
  have hBx : Blk w1 (w.heap.size + 1) 59 #[.bool false, .slice none 0 0] := (Blk.new' (by simp) _ _).below hb1
  go_wp2
  refine bodyPost_ret (v := .agg #[.bool n2, .slice A2 m2 c2]) (by simp [results, Tryd.results42, go_sem, hc1, hf1]) rfl ⟨n2, A2, m2, c2, rfl, ?_, ?_⟩
  · exact (k2.set_ (p := ⟨w.heap.size + 1, 0, none⟩) hBx (by decide) _).set_ (p := ⟨w.heap.size + 1, 1, none⟩) (hBx.put 0 _ rfl) (by decide) _
  · exact bl_set (bl_set (bl_step (bl_alloc (bl_alloc (Below.refl _ _) _) _) hb1) (by simp) _) (by simp) _

/-- How the rounds of Short stand: what the digits above place i are worth, with the sign. -/
structure ShIn (n : Bool) (ds : List Nat) (i s : Int) : Prop where
  out : s = if n = true then -((dval (ds.drop (i + 1).toNat) : Nat) : Int) else ((dval (ds.drop (i + 1).toNat) : Nat) : Int)
theorem ShIn.step {n : Bool} {ds : List Nat} {j : Nat} {s : Int} (h : ShIn n ds (j : Int) s) (hj : j < ds.length) : ShIn n ds ((j : Int) - 1) (if n = true then s * 65536 - ds[j] else s * 65536 + ds[j]) := ⟨by
  have e := h.out
  rw [show ((j : Int) + 1).toNat = j + 1 by omega] at e
  rw [show ((j : Int) - 1 + 1).toNat = j by omega, List.drop_eq_getElem_cons hj, dval]
  cases n <;> simp at e ⊢ <;> omega⟩
theorem ShIn.bd {n : Bool} {ds : List Nat} {j : Nat} {s z : Int} (h : ShIn n ds (j : Int) s) (hj : j < ds.length) (hz : dval ds = z.natAbs) (hn : n = decide (z < 0)) (h1 : -9223372036854775808 ≤ z) (h2 : z ≤ 9223372036854775807) :
    -9223372036854775808 ≤ s * 65536 ∧ s * 65536 ≤ 9223372036854775807 ∧ -9223372036854775808 ≤ (if n = true then s * 65536 - ds[j] else s * 65536 + ds[j]) ∧ (if n = true then s * 65536 - ds[j] else s * 65536 + ds[j]) ≤ 9223372036854775807 := by
  have e := h.out
  rw [show ((j : Int) + 1).toNat = j + 1 by omega] at e
  have hs := dval_split ds j (by omega)
  rw [List.drop_eq_getElem_cons hj, dval] at hs
  generalize dval (ds.drop (j + 1)) = q at *
  generalize ds[j] = d at *
  have hp : 1 ≤ 65536 ^ j := Nat.pow_pos (by omega)
  have h3 : 1 * (d + 65536 * q) ≤ 65536 ^ j * (d + 65536 * q) := Nat.mul_le_mul_right _ hp
  have h4 : d + 65536 * q ≤ z.natAbs := by omega
  cases n with
  | true => have : z < 0 := of_decide_eq_true hn.symm
            simp at e ⊢; omega
  | false => have : ¬ z < 0 := of_decide_eq_false hn.symm
             simp at e ⊢; omega

set_option maxHeartbeats 3200000 in
theorem Short_any (n : Bool) (A : Option Addr) (m c : Nat) (z : Int) (w : World) (h : BigV w n A m c z) :
    Calls Tryd.prog 43 #[.agg #[.bool n, .slice A m c]] w fun e w' => e = .returned (.tuple #[.int .i64 (fitN z), .bool (fitB z)]) ∧ Below w.heap.size w w' := by
  have i1 : InI (-9223372036854775808) := ⟨by omega, by omega⟩
  have i2 : InI 9223372036854775807 := ⟨by omega, by omega⟩
  go_enter Tryd.func43, Tryd.ntmps43
  go_wp2_with fail
  refine (Of_any _ _ i1).mono ?_; rintro e w1 ⟨n1, A1, m1, c1, rfl, k1, hb1⟩
  have hBa1 : Blk w1 w.heap.size 59 #[.bool n, .slice A m c] := (Blk.new _ _ _).below hb1
  go_wp2_with fail
  refine (Of_any _ _ i2).mono ?_; rintro e w2 ⟨n2, A2, m2, c2, rfl, k2, hb2⟩
  have hBa2 := (hBa1.alloc _).below hb2
  have hBl2 : Blk w2 w1.heap.size 59 #[.bool n1, .slice A1 m1 c1] := (Blk.new _ _ _).below hb2
  have az : w.heap.size < w2.heap.size := hBa2.lt
  have ac0 : w2.cell? ⟨w.heap.size, 0, none⟩ = some (.bool n) := (hBa2.cell 0).trans rfl
  have af0 := hBa2.frozen 0
  have ac1 : w2.cell? ⟨w.heap.size, 1, none⟩ = some (.slice A m c) := (hBa2.cell 1).trans rfl
  have af1 := hBa2.frozen 1
  have lz : w1.heap.size < w2.heap.size := hBl2.lt
  have lc0 : w2.cell? ⟨w1.heap.size, 0, none⟩ = some (.bool n1) := (hBl2.cell 0).trans rfl
  have lf0 := hBl2.frozen 0
  have lc1 : w2.cell? ⟨w1.heap.size, 1, none⟩ = some (.slice A1 m1 c1) := (hBl2.cell 1).trans rfl
  have lf1 := hBl2.frozen 1
  have bl2 : Below w.heap.size w w2 := bl_step (bl_alloc (bl_step (bl_alloc (Below.refl _ _) _) hb1) _) hb2
  have hA2 : BigV w2 n A m c z := h.below bl2
  have hL2 : BigV w2 n1 A1 m1 c1 (-9223372036854775808) := k1.below (bl_step (bl_alloc (Below.refl _ _) _) hb2)
  have HC1 := Lib.hid (fun W (hw : Below w2.heap.size w2 W) => Cmp_any n n1 A A1 m m1 c c1 z _ W (hA2.below hw) (hL2.below hw))
  go_wp2_with fail
  refine (HC1.out _ (bl_alloc (Below.refl _ _) _)).mono ?_; rintro e w3 ⟨rfl, hb3⟩
  generalize hx : cmp3 z (-9223372036854775808) = x
  have HX := Lib.hid hx
  clear hx HC1
  clear az ac0 af0 ac1 af1
  clear lz lc0 lf0 lc1 lf1
  have hBa3 := (hBa2.alloc _).below hb3
  have hBh3 : Blk w3 w2.heap.size 59 #[.bool n2, .slice A2 m2 c2] := (Blk.new _ _ _).below hb3
  have az : w.heap.size < w3.heap.size := hBa3.lt
  have ac0 : w3.cell? ⟨w.heap.size, 0, none⟩ = some (.bool n) := (hBa3.cell 0).trans rfl
  have af0 := hBa3.frozen 0
  have ac1 : w3.cell? ⟨w.heap.size, 1, none⟩ = some (.slice A m c) := (hBa3.cell 1).trans rfl
  have af1 := hBa3.frozen 1
  have hz : w2.heap.size < w3.heap.size := hBh3.lt
  have hc0 : w3.cell? ⟨w2.heap.size, 0, none⟩ = some (.bool n2) := (hBh3.cell 0).trans rfl
  have hf0 := hBh3.frozen 0
  have hc1 : w3.cell? ⟨w2.heap.size, 1, none⟩ = some (.slice A2 m2 c2) := (hBh3.cell 1).trans rfl
  have hf1 := hBh3.frozen 1
  have bl3 := bl_step (bl_alloc bl2 _) hb3
  have hA3 : BigV w3 n A m c z := h.below bl3
  have hH3 : BigV w3 n2 A2 m2 c2 9223372036854775807 := k2.below (bl_step (bl_alloc (Below.refl _ _) _) hb3)
  have HC2 := Lib.hid (Cmp_any n n2 A A2 m m2 c c2 z _ w3 hA3 hH3)
  go_wp2_with fail
  refine HC2.out.mono ?_; rintro e w4 ⟨rfl, hb4⟩
  generalize hy : cmp3 z 9223372036854775807 = y
  have HY := Lib.hid hy
  clear hy HC2
  clear az ac0 af0 ac1 af1
  clear hz hc0 hf0 hc1 hf1
  have hBa4 := hBa3.below hb4
  have az : w.heap.size < w4.heap.size := hBa4.lt
  have ac0 : w4.cell? ⟨w.heap.size, 0, none⟩ = some (.bool n) := (hBa4.cell 0).trans rfl
  have af0 := hBa4.frozen 0
  have ac1 : w4.cell? ⟨w.heap.size, 1, none⟩ = some (.slice A m c) := (hBa4.cell 1).trans rfl
  have af1 := hBa4.frozen 1
  have hbl := bl_step bl3 hb4
  by_cases hz : -9223372036854775808 ≤ z ∧ z ≤ 9223372036854775807
  · have hx : ¬ x < 0 := by rw [← HX.out]; unfold cmp3; split <;> (try split) <;> omega
    have hy : ¬ 0 < y := by rw [← HY.out]; unfold cmp3; split <;> (try split) <;> omega
    have hx' : decide (x < 0) = false := decide_eq_false hx
    have hy' : decide (0 < y) = false := decide_eq_false hy
    obtain ⟨ds, hD, -, hn, hv⟩ := h.out
    obtain rfl := hD.len
    have hcap := hD.cap
    have hcapm := hD.capm
    have hD4 := hD.below hbl
    cases n
    · have HV := Lib.hid hv
      have HN := Lib.hid hn
      clear hv hn hD hA2 hL2 hH3 hA3
      go_wp2_with fail

      go_loop [8, 9] (fun vs vi => ∃ s i : Int, vs = .int .i64 s ∧ vi = .int .i64 i ∧ -1 ≤ i ∧ i < ds.length ∧ ShIn false ds i s) (fun _ vi => (intOf vi + 1).toNat)
      case atStart => exact ⟨0, _, rfl, rfl, by omega, by omega, ⟨by
        rw [show ((ds.length : Int) - 1 + 1).toNat = ds.length by omega, List.drop_of_length_le (Nat.le_refl _)]; simp [dval]⟩⟩
      case round =>
        obtain ⟨s, i, rfl, rfl, hi1, hi2, hS⟩ := hrel
        by_cases h0 : 0 ≤ i
        · obtain ⟨j, rfl⟩ := Int.eq_ofNat_of_zero_le h0
          have hj1 : j < ds.length := by omega
          obtain ⟨ad, rfl, g1⟩ := hD4.rd.at_ j (by rw [dvs_length]; exact hj1)
          rw [dvs_get ds j hj1] at g1
          have hd := digs_get hD4.digs j hj1
          have hst := hS.step hj1
          have hbd := hS.bd hj1 HV.out HN.out hz.1 hz.2
          simp only [Bool.false_eq_true, if_false] at hst hbd
          generalize ds[j] = d at g1 hst hbd hd
          have hd0 : (d : Int) ≤ 9223372036854775807 := by omega
          obtain ⟨q1, q2, q3, q4⟩ := hbd
          have HS2 := Lib.hid hst
          clear hst hS
          go_wp2
          go_round
          case rel => exact ⟨_, _, rfl, rfl, by omega, by omega, HS2.out⟩
          case measure => simp only [intOf]; omega
        · go_wp2
          go_ret2
          refine ⟨?_, hbl⟩
          have hi : i = -1 := by omega
          subst hi
          refine fit_yes hz ?_
          show s = z
          have e := hS.out
          have hv := HV.out
          have hn := HN.out
          simp at e
          rw [hv] at e
          have := hn.symm
          simp at this
          omega
    · have HV := Lib.hid hv
      have HN := Lib.hid hn
      clear hv hn hD hA2 hL2 hH3 hA3
      go_wp2_with fail

      go_loop [8, 9] (fun vs vi => ∃ s i : Int, vs = .int .i64 s ∧ vi = .int .i64 i ∧ -1 ≤ i ∧ i < ds.length ∧ ShIn true ds i s) (fun _ vi => (intOf vi + 1).toNat)
      case atStart => exact ⟨0, _, rfl, rfl, by omega, by omega, ⟨by
        rw [show ((ds.length : Int) - 1 + 1).toNat = ds.length by omega, List.drop_of_length_le (Nat.le_refl _)]; simp [dval]⟩⟩
      case round =>
        obtain ⟨s, i, rfl, rfl, hi1, hi2, hS⟩ := hrel
        by_cases h0 : 0 ≤ i
        · obtain ⟨j, rfl⟩ := Int.eq_ofNat_of_zero_le h0
          have hj1 : j < ds.length := by omega
          obtain ⟨ad, rfl, g1⟩ := hD4.rd.at_ j (by rw [dvs_length]; exact hj1)
          rw [dvs_get ds j hj1] at g1
          have hd := digs_get hD4.digs j hj1
          have hst := hS.step hj1
          have hbd := hS.bd hj1 HV.out HN.out hz.1 hz.2
          simp only [if_true] at hst hbd
          generalize ds[j] = d at g1 hst hbd hd
          have hd0 : (d : Int) ≤ 9223372036854775807 := by omega
          obtain ⟨q1, q2, q3, q4⟩ := hbd
          have HS2 := Lib.hid hst
          clear hst hS
          go_wp2
          go_round
          case rel => exact ⟨_, _, rfl, rfl, by omega, by omega, HS2.out⟩
          case measure => simp only [intOf]; omega
        · go_wp2
          go_ret2
          refine ⟨?_, hbl⟩
          have hi : i = -1 := by omega
          subst hi
          refine fit_yes hz ?_
          show s = z
          have e := hS.out
          have hv := HV.out
          have hn := HN.out
          simp at e
          rw [hv] at e
          have := hn.symm
          simp at this
          omega
  · by_cases hx : x < 0
    · go_wp2
      go_ret2
      exact ⟨fit_no hz, hbl⟩
    · have hx' : decide (x < 0) = false := decide_eq_false hx
      have hy : 0 < y := by
        rw [← HY.out]
        have h1 : ¬ cmp3 z (-9223372036854775808) < 0 := by rw [HX.out]; exact hx
        unfold cmp3 at h1 ⊢
        by_cases c1 : z < -9223372036854775808
        · rw [if_pos c1] at h1; omega
        · rw [if_neg (by omega), if_neg (by omega)]; omega
      go_wp2
      go_ret2
      exact ⟨fit_no hz, hbl⟩
end Go.Proofs.YtkdklmkcanjjfaaDoor
