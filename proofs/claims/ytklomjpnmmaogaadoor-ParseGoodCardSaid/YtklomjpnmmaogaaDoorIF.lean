/- The walks of the reference's instances, part F: the numbers. -/
import Derived.Test.YtklomjpnmmaogaaDoorIE
namespace Go.Proofs.YtklomjpnmmaogaaDoor
open Go.RowKit
set_option linter.unusedVariables false
set_option linter.unusedSimpArgs false
set_option maxRecDepth 100000

theorem out_any (n low : Int) (w : World) : Calls Tryd.prog 85 #[.int .i64 n, .int .i64 low, .int .i64 2147483648] w fun e w' => e = .returned (.bool (!fromB n low)) ∧ Below w.heap.size w w' := by
  by_cases h0 : n < low
  · have e : Hid (fromB n low = false) := Lib.hid (by unfold fromB; simp; omega)
    go_enter Tryd.func85, Tryd.ntmps85
    go_wp2
    go_ret
    exact ⟨by rw [e.out]; rfl, Below.refl _ _⟩
  · by_cases h1 : 2147483648 < n
    · have e : Hid (fromB n low = false) := Lib.hid (by unfold fromB; simp; omega)
      have h1' : decide (2147483648 < n) = true := by simpa using h1
      go_enter Tryd.func85, Tryd.ntmps85
      go_wp2
      go_ret
      exact ⟨by rw [e.out]; rfl, Below.refl _ _⟩
    · have e : Hid (fromB n low = true) := Lib.hid (by unfold fromB; simp; omega)
      have h1' : decide (2147483648 < n) = false := by simpa using h1
      go_enter Tryd.func85, Tryd.ntmps85
      go_wp2
      go_ret
      exact ⟨by rw [e.out]; rfl, Below.refl _ _⟩
set_option maxHeartbeats 12800000 in
theorem numbers_any (I : IData) (A1 A2 A3 : Option Addr) (c1 c2 c3 : Nat) (w : World) {B : Nat} (hI : InstAt w B I A1 c1 A2 c2 A3 c3) : Calls Tryd.prog 64 #[.agg #[.int .i64 I.kind, .int .i64 I.cap, .slice A1 I.items.length c1, .slice A2 I.cost.length c2, .int .i64 I.size, .slice A3 I.sets.length c3]] w fun e w' => e = .returned (.bool (smallB I)) ∧ Below w.heap.size w w' := by
  have HI := Lib.hid hI
  have N1 := hI.n1
  have N2 := hI.n2
  have N3 := hI.n3
  have HC := Lib.hid (fun w => out_any I.cap 0 w)
  clear hI
  go_enter Tryd.func64, Tryd.ntmps64
  have bl0 := Below.refl w.heap.size w
  go_wp2_with fail
  have Ni_0 : Blk (w.alloc (.cells #[.int .i64 I.kind, .int .i64 I.cap, .slice A1 I.items.length c1, .slice A2 I.cost.length c2, .int .i64 I.size, .slice A3 I.sets.length c3] 36)) (w.heap.size) 36 #[.int .i64 I.kind, .int .i64 I.cap, .slice A1 I.items.length c1, .slice A2 I.cost.length c2, .int .i64 I.size, .slice A3 I.sets.length c3] := (Blk.new _ _ _)
  have bl0 := bl_alloc (bl0) (.cells #[.int .i64 I.kind, .int .i64 I.cap, .slice A1 I.items.length c1, .slice A2 I.cost.length c2, .int .i64 I.size, .slice A3 I.sets.length c3] 36)
  generalize w.alloc (.cells #[.int .i64 I.kind, .int .i64 I.cap, .slice A1 I.items.length c1, .slice A2 I.cost.length c2, .int .i64 I.size, .slice A3 I.sets.length c3] 36) = vw0 at Ni_0 bl0 ⊢
  have i_n0_z : w.heap.size < vw0.heap.size := Ni_0.lt
  have i_n0_c0 : vw0.cell? ⟨w.heap.size, 0, none⟩ = some (.int .i64 I.kind) := (Ni_0.cell 0).trans rfl
  have i_n0_f0 := Ni_0.frozen 0
  have i_n0_c1 : vw0.cell? ⟨w.heap.size, 1, none⟩ = some (.int .i64 I.cap) := (Ni_0.cell 1).trans rfl
  have i_n0_f1 := Ni_0.frozen 1
  have i_n0_c2 : vw0.cell? ⟨w.heap.size, 2, none⟩ = some (.slice A1 I.items.length c1) := (Ni_0.cell 2).trans rfl
  have i_n0_f2 := Ni_0.frozen 2
  have i_n0_c3 : vw0.cell? ⟨w.heap.size, 3, none⟩ = some (.slice A2 I.cost.length c2) := (Ni_0.cell 3).trans rfl
  have i_n0_f3 := Ni_0.frozen 3
  have i_n0_c4 : vw0.cell? ⟨w.heap.size, 4, none⟩ = some (.int .i64 I.size) := (Ni_0.cell 4).trans rfl
  have i_n0_f4 := Ni_0.frozen 4
  have i_n0_c5 : vw0.cell? ⟨w.heap.size, 5, none⟩ = some (.slice A3 I.sets.length c3) := (Ni_0.cell 5).trans rfl
  have i_n0_f5 := Ni_0.frozen 5
  go_wp2_with fail
  (with_reducible refine (HC.out _).mono ?_); rintro e v1 ⟨rfl, hb1⟩
  have bl1 := bl_step bl0 hb1
  have Bi_1 := Ni_0.below hb1
  clear Ni_0 bl0 i_n0_z i_n0_c0 i_n0_f0 i_n0_c1 i_n0_f1 i_n0_c2 i_n0_f2 i_n0_c3 i_n0_f3 i_n0_c4 i_n0_f4 i_n0_c5 i_n0_f5
  have i_1_z : w.heap.size < v1.heap.size := Bi_1.lt
  have i_1_c0 : v1.cell? ⟨w.heap.size, 0, none⟩ = some (.int .i64 I.kind) := (Bi_1.cell 0).trans rfl
  have i_1_f0 := Bi_1.frozen 0
  have i_1_c1 : v1.cell? ⟨w.heap.size, 1, none⟩ = some (.int .i64 I.cap) := (Bi_1.cell 1).trans rfl
  have i_1_f1 := Bi_1.frozen 1
  have i_1_c2 : v1.cell? ⟨w.heap.size, 2, none⟩ = some (.slice A1 I.items.length c1) := (Bi_1.cell 2).trans rfl
  have i_1_f2 := Bi_1.frozen 2
  have i_1_c3 : v1.cell? ⟨w.heap.size, 3, none⟩ = some (.slice A2 I.cost.length c2) := (Bi_1.cell 3).trans rfl
  have i_1_f3 := Bi_1.frozen 3
  have i_1_c4 : v1.cell? ⟨w.heap.size, 4, none⟩ = some (.int .i64 I.size) := (Bi_1.cell 4).trans rfl
  have i_1_f4 := Bi_1.frozen 4
  have i_1_c5 : v1.cell? ⟨w.heap.size, 5, none⟩ = some (.slice A3 I.sets.length c3) := (Bi_1.cell 5).trans rfl
  have i_1_f5 := Bi_1.frozen 5
  go_wp2_with fail
  go_loopw [3, 4] (fun vb vi wr => ∃ (b : Bool) (i : Nat), vb = .bool b ∧ vi = .int .i64 i ∧ i ≤ I.items.length ∧ Hid (smallB I = (!b && (((I.items.drop i).all fun p => fromB p.1 0 && fromB p.2 0) && ((I.cost.all fun r => r.all fun c => fromB c (-2147483648)) && I.sets.all fun p => fromB p.1 0)))) ∧ Blk wr w.heap.size 36 #[.int .i64 I.kind, .int .i64 I.cap, .slice A1 I.items.length c1, .slice A2 I.cost.length c2, .int .i64 I.size, .slice A3 I.sets.length c3] ∧ Below w.heap.size w wr) (fun _ vi _ => I.items.length - (intOf vi).toNat)
  case atStart => exact ⟨_, 0, rfl, rfl, Nat.zero_le _, Lib.hid (by rw [Bool.not_not]; rfl), Bi_1, bl1⟩
  case round =>
    clear Bi_1 bl1 i_1_z i_1_c0 i_1_f0 i_1_c1 i_1_f1 i_1_c2 i_1_f2 i_1_c3 i_1_f3 i_1_c4 i_1_f4 i_1_c5 i_1_f5
    obtain ⟨b, i, rfl, rfl, hi, HE, hBx, be⟩ := hrel
    by_cases hlt : i < I.items.length
    · obtain ⟨p, hp⟩ : ∃ p, I.items[i]? = some p := ⟨_, List.getElem?_eq_getElem hlt⟩
      obtain ⟨g, o, rfl, hb, hc1, hc2⟩ := (HI.out.below be).items.get hp
      have hd := drop_get hp
      have HF1 := fun w => out_any p.1 0 w
      have HF2 := fun w => out_any p.2 0 w
      have hd2 := HE.out
      rw [hd] at hd2
      simp only [List.all_cons] at hd2
      generalize fromB p.1 0 = x at HF1 hd2
      generalize fromB p.2 0 = y at HF2 hd2
      replace HF1 := Lib.hid HF1
      replace HF2 := Lib.hid HF2
      have HD := Lib.hid hd2
      have HK := Lib.hid (fun wq (h : Below wr.heap.size wr wq) => ((HI.out.below be).below h).items.get hp)
      clear hd hp HE hd2
      cases b <;> cases x <;> cases y
      all_goals
        have bl60 : Below wr.heap.size wr wr := Below.refl _ _
        have i_o_z : w.heap.size < wr.heap.size := hBx.lt
        have i_o_c0 : wr.cell? ⟨w.heap.size, 0, none⟩ = some (.int .i64 I.kind) := (hBx.cell 0).trans rfl
        have i_o_f0 := hBx.frozen 0
        have i_o_c1 : wr.cell? ⟨w.heap.size, 1, none⟩ = some (.int .i64 I.cap) := (hBx.cell 1).trans rfl
        have i_o_f1 := hBx.frozen 1
        have i_o_c2 : wr.cell? ⟨w.heap.size, 2, none⟩ = some (.slice (some ⟨g, o, none⟩) I.items.length c1) := (hBx.cell 2).trans rfl
        have i_o_f2 := hBx.frozen 2
        have i_o_c3 : wr.cell? ⟨w.heap.size, 3, none⟩ = some (.slice A2 I.cost.length c2) := (hBx.cell 3).trans rfl
        have i_o_f3 := hBx.frozen 3
        have i_o_c4 : wr.cell? ⟨w.heap.size, 4, none⟩ = some (.int .i64 I.size) := (hBx.cell 4).trans rfl
        have i_o_f4 := hBx.frozen 4
        have i_o_c5 : wr.cell? ⟨w.heap.size, 5, none⟩ = some (.slice A3 I.sets.length c3) := (hBx.cell 5).trans rfl
        have i_o_f5 := hBx.frozen 5
        go_wp2_with fail
        (with_reducible refine (HF1.out _).mono ?_); rintro e u61 ⟨rfl, hb61⟩
        have st61 := bl_step (Below.refl _ _) hb61
        have bl61 := bl_step bl60 st61
        clear i_o_z i_o_c0 i_o_f0 i_o_c1 i_o_f1 i_o_c2 i_o_f2 i_o_c3 i_o_f3 i_o_c4 i_o_f4 i_o_c5 i_o_f5
        have Bi_61 := hBx.below st61
        have i_61_z : w.heap.size < u61.heap.size := Bi_61.lt
        have i_61_c0 : u61.cell? ⟨w.heap.size, 0, none⟩ = some (.int .i64 I.kind) := (Bi_61.cell 0).trans rfl
        have i_61_f0 := Bi_61.frozen 0
        have i_61_c1 : u61.cell? ⟨w.heap.size, 1, none⟩ = some (.int .i64 I.cap) := (Bi_61.cell 1).trans rfl
        have i_61_f1 := Bi_61.frozen 1
        have i_61_c2 : u61.cell? ⟨w.heap.size, 2, none⟩ = some (.slice (some ⟨g, o, none⟩) I.items.length c1) := (Bi_61.cell 2).trans rfl
        have i_61_f2 := Bi_61.frozen 2
        have i_61_c3 : u61.cell? ⟨w.heap.size, 3, none⟩ = some (.slice A2 I.cost.length c2) := (Bi_61.cell 3).trans rfl
        have i_61_f3 := Bi_61.frozen 3
        have i_61_c4 : u61.cell? ⟨w.heap.size, 4, none⟩ = some (.int .i64 I.size) := (Bi_61.cell 4).trans rfl
        have i_61_f4 := Bi_61.frozen 4
        have i_61_c5 : u61.cell? ⟨w.heap.size, 5, none⟩ = some (.slice A3 I.sets.length c3) := (Bi_61.cell 5).trans rfl
        have i_61_f5 := Bi_61.frozen 5
        obtain ⟨g1, o1, eg, hg1, hk1, hk2⟩ := HK.out u61 bl61; injection eg with eg; injection eg with eg1 eg2; subst eg1; subst eg2
        go_wp2_with fail
        (with_reducible refine (HF2.out _).mono ?_); rintro e u62 ⟨rfl, hb62⟩
        have st62 := bl_step (Below.refl _ _) hb62
        have bl62 := bl_step bl61 st62
        clear i_61_z i_61_c0 i_61_f0 i_61_c1 i_61_f1 i_61_c2 i_61_f2 i_61_c3 i_61_f3 i_61_c4 i_61_f4 i_61_c5 i_61_f5
        have Bi_62 := Bi_61.below st62
        have i_62_z : w.heap.size < u62.heap.size := Bi_62.lt
        have i_62_c0 : u62.cell? ⟨w.heap.size, 0, none⟩ = some (.int .i64 I.kind) := (Bi_62.cell 0).trans rfl
        have i_62_f0 := Bi_62.frozen 0
        have i_62_c1 : u62.cell? ⟨w.heap.size, 1, none⟩ = some (.int .i64 I.cap) := (Bi_62.cell 1).trans rfl
        have i_62_f1 := Bi_62.frozen 1
        have i_62_c2 : u62.cell? ⟨w.heap.size, 2, none⟩ = some (.slice (some ⟨g, o, none⟩) I.items.length c1) := (Bi_62.cell 2).trans rfl
        have i_62_f2 := Bi_62.frozen 2
        have i_62_c3 : u62.cell? ⟨w.heap.size, 3, none⟩ = some (.slice A2 I.cost.length c2) := (Bi_62.cell 3).trans rfl
        have i_62_f3 := Bi_62.frozen 3
        have i_62_c4 : u62.cell? ⟨w.heap.size, 4, none⟩ = some (.int .i64 I.size) := (Bi_62.cell 4).trans rfl
        have i_62_f4 := Bi_62.frozen 4
        have i_62_c5 : u62.cell? ⟨w.heap.size, 5, none⟩ = some (.slice A3 I.sets.length c3) := (Bi_62.cell 5).trans rfl
        have i_62_f5 := Bi_62.frozen 5
        go_wp2_with fail
        go_roundw
        case rel => exact ⟨_, i + 1, rfl, by go_num, by omega, Lib.hid (by rw [HD.out]; simp), Bi_62, bl_step be bl62⟩
        case measure => simp only [intOf]; omega
    · obtain rfl : i = I.items.length := by omega
      have HE2 : Hid (smallB I = (!b && ((I.cost.all fun r => r.all fun c => fromB c (-2147483648)) && I.sets.all fun p => fromB p.1 0))) := Lib.hid (by rw [HE.out, List.drop_length]; rfl)
      clear HE hlt hi
      have o2_z : w.heap.size < wr.heap.size := hBx.lt
      have o2_c0 : wr.cell? ⟨w.heap.size, 0, none⟩ = some (.int .i64 I.kind) := (hBx.cell 0).trans rfl
      have o2_f0 := hBx.frozen 0
      have o2_c1 : wr.cell? ⟨w.heap.size, 1, none⟩ = some (.int .i64 I.cap) := (hBx.cell 1).trans rfl
      have o2_f1 := hBx.frozen 1
      have o2_c2 : wr.cell? ⟨w.heap.size, 2, none⟩ = some (.slice A1 I.items.length c1) := (hBx.cell 2).trans rfl
      have o2_f2 := hBx.frozen 2
      have o2_c3 : wr.cell? ⟨w.heap.size, 3, none⟩ = some (.slice A2 I.cost.length c2) := (hBx.cell 3).trans rfl
      have o2_f3 := hBx.frozen 3
      have o2_c4 : wr.cell? ⟨w.heap.size, 4, none⟩ = some (.int .i64 I.size) := (hBx.cell 4).trans rfl
      have o2_f4 := hBx.frozen 4
      have o2_c5 : wr.cell? ⟨w.heap.size, 5, none⟩ = some (.slice A3 I.sets.length c3) := (hBx.cell 5).trans rfl
      have o2_f5 := hBx.frozen 5
      go_wp2_with fail
      go_loopw [3, 7] (fun vb vi wr => ∃ (b : Bool) (i : Nat), vb = .bool b ∧ vi = .int .i64 i ∧ i ≤ I.cost.length ∧ Hid (smallB I = (!b && (((I.cost.drop i).all fun r => r.all fun c => fromB c (-2147483648)) && I.sets.all fun p => fromB p.1 0))) ∧ Blk wr w.heap.size 36 #[.int .i64 I.kind, .int .i64 I.cap, .slice A1 I.items.length c1, .slice A2 I.cost.length c2, .int .i64 I.size, .slice A3 I.sets.length c3] ∧ Below w.heap.size w wr) (fun _ vi _ => I.cost.length - (intOf vi).toNat)
      case atStart => exact ⟨_, 0, rfl, rfl, Nat.zero_le _, HE2, hBx, be⟩
      case round =>
        clear hBx be HE2 o2_z o2_c0 o2_f0 o2_c1 o2_f1 o2_c2 o2_f2 o2_c3 o2_f3 o2_c4 o2_f4 o2_c5 o2_f5
        obtain ⟨b, i, rfl, rfl, hi, HE, hBx, be⟩ := hrel
        generalize wr = wo at hBx be ⊢
        by_cases hlt : i < I.cost.length
        · obtain ⟨r, hr⟩ : ∃ r, I.cost[i]? = some r := ⟨_, List.getElem?_eq_getElem hlt⟩
          obtain ⟨g, o, A', c', rfl, hb, hc, h4, h5, h6⟩ := (HI.out.below be).cost.get hr
          have hd := drop_get hr
          have hd2 := HE.out
          rw [hd] at hd2
          simp only [List.all_cons] at hd2
          have HD := Lib.hid hd2
          have HRR := Lib.hid h6
          have HBB := (HI.out.below be).bd
          clear hd hd2 hr HE h6
          have o3_z : w.heap.size < wo.heap.size := hBx.lt
          have o3_c0 : wo.cell? ⟨w.heap.size, 0, none⟩ = some (.int .i64 I.kind) := (hBx.cell 0).trans rfl
          have o3_f0 := hBx.frozen 0
          have o3_c1 : wo.cell? ⟨w.heap.size, 1, none⟩ = some (.int .i64 I.cap) := (hBx.cell 1).trans rfl
          have o3_f1 := hBx.frozen 1
          have o3_c2 : wo.cell? ⟨w.heap.size, 2, none⟩ = some (.slice A1 I.items.length c1) := (hBx.cell 2).trans rfl
          have o3_f2 := hBx.frozen 2
          have o3_c3 : wo.cell? ⟨w.heap.size, 3, none⟩ = some (.slice (some ⟨g, o, none⟩) I.cost.length c2) := (hBx.cell 3).trans rfl
          have o3_f3 := hBx.frozen 3
          have o3_c4 : wo.cell? ⟨w.heap.size, 4, none⟩ = some (.int .i64 I.size) := (hBx.cell 4).trans rfl
          have o3_f4 := hBx.frozen 4
          have o3_c5 : wo.cell? ⟨w.heap.size, 5, none⟩ = some (.slice A3 I.sets.length c3) := (hBx.cell 5).trans rfl
          have o3_f5 := hBx.frozen 5
          go_wp2_with fail
          go_loopw [3, 8] (fun vb vj wr => ∃ (b : Bool) (j : Nat), vb = .bool b ∧ vj = .int .i64 j ∧ j ≤ r.length ∧ Hid (smallB I = (!b && (((r.drop j).all fun c => fromB c (-2147483648)) && (((I.cost.drop (i + 1)).all fun r => r.all fun c => fromB c (-2147483648)) && I.sets.all fun p => fromB p.1 0)))) ∧ Below wo.heap.size wo wr) (fun _ vj _ => r.length - (intOf vj).toNat)
          case atStart => exact ⟨_, 0, rfl, rfl, Nat.zero_le _, Lib.hid (by rw [HD.out, List.drop_zero, Bool.and_assoc]), Below.refl _ _⟩
          case round =>
            clear HD o3_z o3_c0 o3_f0 o3_c1 o3_f1 o3_c2 o3_f2 o3_c3 o3_f3 o3_c4 o3_f4 o3_c5 o3_f5
            obtain ⟨b, j, rfl, rfl, hj, HE, be2⟩ := hrel
            have hBy := hBx.below be2
            have hcw : wr.cell? ⟨g, o + i, none⟩ = some (.slice A' r.length c') := (be2.cell (p := ⟨g, o + i, none⟩) (by show g < _; omega)).trans hc
            have o5_z : w.heap.size < wr.heap.size := hBy.lt
            have o5_c0 : wr.cell? ⟨w.heap.size, 0, none⟩ = some (.int .i64 I.kind) := (hBy.cell 0).trans rfl
            have o5_f0 := hBy.frozen 0
            have o5_c1 : wr.cell? ⟨w.heap.size, 1, none⟩ = some (.int .i64 I.cap) := (hBy.cell 1).trans rfl
            have o5_f1 := hBy.frozen 1
            have o5_c2 : wr.cell? ⟨w.heap.size, 2, none⟩ = some (.slice A1 I.items.length c1) := (hBy.cell 2).trans rfl
            have o5_f2 := hBy.frozen 2
            have o5_c3 : wr.cell? ⟨w.heap.size, 3, none⟩ = some (.slice (some ⟨g, o, none⟩) I.cost.length c2) := (hBy.cell 3).trans rfl
            have o5_f3 := hBy.frozen 3
            have o5_c4 : wr.cell? ⟨w.heap.size, 4, none⟩ = some (.int .i64 I.size) := (hBy.cell 4).trans rfl
            have o5_f4 := hBy.frozen 4
            have o5_c5 : wr.cell? ⟨w.heap.size, 5, none⟩ = some (.slice A3 I.sets.length c3) := (hBy.cell 5).trans rfl
            have o5_f5 := hBy.frozen 5
            by_cases hlt2 : j < r.length
            · obtain ⟨c, hcx⟩ : ∃ c, r[j]? = some c := ⟨_, List.getElem?_eq_getElem hlt2⟩
              obtain ⟨g', o', rfl, hb', hce⟩ := (HRR.out.keep (Alike.of_below be2 HBB)).get hcx
              have hd := drop_get hcx
              have HF1 := fun w => out_any c (-2147483648) w
              have hd2 := HE.out
              rw [hd] at hd2
              simp only [List.all_cons] at hd2
              generalize fromB c (-2147483648) = x at HF1 hd2
              replace HF1 := Lib.hid HF1
              have HD := Lib.hid hd2
              clear hd hcx HE hd2
              cases b
              · go_wp2_with fail
                (with_reducible refine (HF1.out _).mono ?_); rintro e q1 ⟨rfl, hq1⟩
                go_wp2_with fail
                go_roundw
                case rel => exact ⟨!x, j + 1, rfl, by go_num, by omega, Lib.hid (by rw [HD.out]; cases x <;> simp), bl_step be2 hq1⟩
                case measure => simp only [intOf]; omega
              · go_wp2_with fail
                (with_reducible refine (HF1.out _).mono ?_); rintro e q1 ⟨rfl, hq1⟩
                go_wp2_with fail
                go_roundw
                case rel => exact ⟨true, j + 1, rfl, by go_num, by omega, Lib.hid (by rw [HD.out]; simp), bl_step be2 hq1⟩
                case measure => simp only [intOf]; omega
            · obtain rfl : j = r.length := by omega
              have HN := Lib.hid (show smallB I = (!b && (((I.cost.drop (i + 1)).all fun r => r.all fun c => fromB c (-2147483648)) && I.sets.all fun p => fromB p.1 0)) by rw [HE.out, List.drop_length]; rfl)
              go_wp2_with fail
              go_roundw
              case rel => exact ⟨b, i + 1, rfl, by go_num, by omega, HN, hBx.below be2, bl_step be be2⟩
              case measure => simp only [intOf]; omega
        · obtain rfl : i = I.cost.length := by omega
          have HE2 : Hid (smallB I = (!b && I.sets.all fun p => fromB p.1 0)) := Lib.hid (by rw [HE.out, List.drop_length]; rfl)
          clear HE hlt hi
          have o4_z : w.heap.size < wo.heap.size := hBx.lt
          have o4_c0 : wo.cell? ⟨w.heap.size, 0, none⟩ = some (.int .i64 I.kind) := (hBx.cell 0).trans rfl
          have o4_f0 := hBx.frozen 0
          have o4_c1 : wo.cell? ⟨w.heap.size, 1, none⟩ = some (.int .i64 I.cap) := (hBx.cell 1).trans rfl
          have o4_f1 := hBx.frozen 1
          have o4_c2 : wo.cell? ⟨w.heap.size, 2, none⟩ = some (.slice A1 I.items.length c1) := (hBx.cell 2).trans rfl
          have o4_f2 := hBx.frozen 2
          have o4_c3 : wo.cell? ⟨w.heap.size, 3, none⟩ = some (.slice A2 I.cost.length c2) := (hBx.cell 3).trans rfl
          have o4_f3 := hBx.frozen 3
          have o4_c4 : wo.cell? ⟨w.heap.size, 4, none⟩ = some (.int .i64 I.size) := (hBx.cell 4).trans rfl
          have o4_f4 := hBx.frozen 4
          have o4_c5 : wo.cell? ⟨w.heap.size, 5, none⟩ = some (.slice A3 I.sets.length c3) := (hBx.cell 5).trans rfl
          have o4_f5 := hBx.frozen 5
          go_wp2_with fail
          go_loopw [3, 10] (fun vb vi wr => ∃ (b : Bool) (i : Nat), vb = .bool b ∧ vi = .int .i64 i ∧ i ≤ I.sets.length ∧ Hid (smallB I = (!b && (I.sets.drop i).all fun p => fromB p.1 0)) ∧ Blk wr w.heap.size 36 #[.int .i64 I.kind, .int .i64 I.cap, .slice A1 I.items.length c1, .slice A2 I.cost.length c2, .int .i64 I.size, .slice A3 I.sets.length c3] ∧ Below w.heap.size w wr) (fun _ vi _ => I.sets.length - (intOf vi).toNat)
          case atStart => exact ⟨_, 0, rfl, rfl, Nat.zero_le _, HE2, hBx, be⟩
          case round =>
            clear hBx be HE2 o4_z o4_c0 o4_f0 o4_c1 o4_f1 o4_c2 o4_f2 o4_c3 o4_f3 o4_c4 o4_f4 o4_c5 o4_f5
            obtain ⟨b, i, rfl, rfl, hi, HE, hBx, be⟩ := hrel
            by_cases hlt : i < I.sets.length
            · obtain ⟨p, hp⟩ : ∃ p, I.sets[i]? = some p := ⟨_, List.getElem?_eq_getElem hlt⟩
              obtain ⟨g, o, A', c', rfl, hb, hc1, hc2, h4, h5, h6⟩ := (HI.out.below be).sets.get hp
              have hd := drop_get hp
              have HF1 := fun w => out_any p.1 0 w
              have hd2 := HE.out
              rw [hd] at hd2
              simp only [List.all_cons] at hd2
              generalize fromB p.1 0 = x at HF1 hd2
              replace HF1 := Lib.hid HF1
              have HD := Lib.hid hd2
              clear hd hp HE hd2 h6
              cases b
              · have bl60 : Below wr.heap.size wr wr := Below.refl _ _
                have i_o_z : w.heap.size < wr.heap.size := hBx.lt
                have i_o_c0 : wr.cell? ⟨w.heap.size, 0, none⟩ = some (.int .i64 I.kind) := (hBx.cell 0).trans rfl
                have i_o_f0 := hBx.frozen 0
                have i_o_c1 : wr.cell? ⟨w.heap.size, 1, none⟩ = some (.int .i64 I.cap) := (hBx.cell 1).trans rfl
                have i_o_f1 := hBx.frozen 1
                have i_o_c2 : wr.cell? ⟨w.heap.size, 2, none⟩ = some (.slice A1 I.items.length c1) := (hBx.cell 2).trans rfl
                have i_o_f2 := hBx.frozen 2
                have i_o_c3 : wr.cell? ⟨w.heap.size, 3, none⟩ = some (.slice A2 I.cost.length c2) := (hBx.cell 3).trans rfl
                have i_o_f3 := hBx.frozen 3
                have i_o_c4 : wr.cell? ⟨w.heap.size, 4, none⟩ = some (.int .i64 I.size) := (hBx.cell 4).trans rfl
                have i_o_f4 := hBx.frozen 4
                have i_o_c5 : wr.cell? ⟨w.heap.size, 5, none⟩ = some (.slice (some ⟨g, o, none⟩) I.sets.length c3) := (hBx.cell 5).trans rfl
                have i_o_f5 := hBx.frozen 5
                go_wp2_with fail
                (with_reducible refine (HF1.out _).mono ?_); rintro e u61 ⟨rfl, hb61⟩
                have st61 := bl_step (Below.refl _ _) hb61
                have bl61 := bl_step bl60 st61
                clear i_o_z i_o_c0 i_o_f0 i_o_c1 i_o_f1 i_o_c2 i_o_f2 i_o_c3 i_o_f3 i_o_c4 i_o_f4 i_o_c5 i_o_f5
                have Bi_61 := hBx.below st61
                have i_61_z : w.heap.size < u61.heap.size := Bi_61.lt
                have i_61_c0 : u61.cell? ⟨w.heap.size, 0, none⟩ = some (.int .i64 I.kind) := (Bi_61.cell 0).trans rfl
                have i_61_f0 := Bi_61.frozen 0
                have i_61_c1 : u61.cell? ⟨w.heap.size, 1, none⟩ = some (.int .i64 I.cap) := (Bi_61.cell 1).trans rfl
                have i_61_f1 := Bi_61.frozen 1
                have i_61_c2 : u61.cell? ⟨w.heap.size, 2, none⟩ = some (.slice A1 I.items.length c1) := (Bi_61.cell 2).trans rfl
                have i_61_f2 := Bi_61.frozen 2
                have i_61_c3 : u61.cell? ⟨w.heap.size, 3, none⟩ = some (.slice A2 I.cost.length c2) := (Bi_61.cell 3).trans rfl
                have i_61_f3 := Bi_61.frozen 3
                have i_61_c4 : u61.cell? ⟨w.heap.size, 4, none⟩ = some (.int .i64 I.size) := (Bi_61.cell 4).trans rfl
                have i_61_f4 := Bi_61.frozen 4
                have i_61_c5 : u61.cell? ⟨w.heap.size, 5, none⟩ = some (.slice (some ⟨g, o, none⟩) I.sets.length c3) := (Bi_61.cell 5).trans rfl
                have i_61_f5 := Bi_61.frozen 5
                go_wp2_with fail
                go_roundw
                case rel => exact ⟨_, i + 1, rfl, by go_num, by omega, Lib.hid (by rw [HD.out]; cases x <;> simp), Bi_61, bl_step be bl61⟩
                case measure => simp only [intOf]; omega
              · have bl60 : Below wr.heap.size wr wr := Below.refl _ _
                have i_o_z : w.heap.size < wr.heap.size := hBx.lt
                have i_o_c0 : wr.cell? ⟨w.heap.size, 0, none⟩ = some (.int .i64 I.kind) := (hBx.cell 0).trans rfl
                have i_o_f0 := hBx.frozen 0
                have i_o_c1 : wr.cell? ⟨w.heap.size, 1, none⟩ = some (.int .i64 I.cap) := (hBx.cell 1).trans rfl
                have i_o_f1 := hBx.frozen 1
                have i_o_c2 : wr.cell? ⟨w.heap.size, 2, none⟩ = some (.slice A1 I.items.length c1) := (hBx.cell 2).trans rfl
                have i_o_f2 := hBx.frozen 2
                have i_o_c3 : wr.cell? ⟨w.heap.size, 3, none⟩ = some (.slice A2 I.cost.length c2) := (hBx.cell 3).trans rfl
                have i_o_f3 := hBx.frozen 3
                have i_o_c4 : wr.cell? ⟨w.heap.size, 4, none⟩ = some (.int .i64 I.size) := (hBx.cell 4).trans rfl
                have i_o_f4 := hBx.frozen 4
                have i_o_c5 : wr.cell? ⟨w.heap.size, 5, none⟩ = some (.slice (some ⟨g, o, none⟩) I.sets.length c3) := (hBx.cell 5).trans rfl
                have i_o_f5 := hBx.frozen 5
                go_wp2_with fail
                (with_reducible refine (HF1.out _).mono ?_); rintro e u61 ⟨rfl, hb61⟩
                have st61 := bl_step (Below.refl _ _) hb61
                have bl61 := bl_step bl60 st61
                clear i_o_z i_o_c0 i_o_f0 i_o_c1 i_o_f1 i_o_c2 i_o_f2 i_o_c3 i_o_f3 i_o_c4 i_o_f4 i_o_c5 i_o_f5
                have Bi_61 := hBx.below st61
                have i_61_z : w.heap.size < u61.heap.size := Bi_61.lt
                have i_61_c0 : u61.cell? ⟨w.heap.size, 0, none⟩ = some (.int .i64 I.kind) := (Bi_61.cell 0).trans rfl
                have i_61_f0 := Bi_61.frozen 0
                have i_61_c1 : u61.cell? ⟨w.heap.size, 1, none⟩ = some (.int .i64 I.cap) := (Bi_61.cell 1).trans rfl
                have i_61_f1 := Bi_61.frozen 1
                have i_61_c2 : u61.cell? ⟨w.heap.size, 2, none⟩ = some (.slice A1 I.items.length c1) := (Bi_61.cell 2).trans rfl
                have i_61_f2 := Bi_61.frozen 2
                have i_61_c3 : u61.cell? ⟨w.heap.size, 3, none⟩ = some (.slice A2 I.cost.length c2) := (Bi_61.cell 3).trans rfl
                have i_61_f3 := Bi_61.frozen 3
                have i_61_c4 : u61.cell? ⟨w.heap.size, 4, none⟩ = some (.int .i64 I.size) := (Bi_61.cell 4).trans rfl
                have i_61_f4 := Bi_61.frozen 4
                have i_61_c5 : u61.cell? ⟨w.heap.size, 5, none⟩ = some (.slice (some ⟨g, o, none⟩) I.sets.length c3) := (Bi_61.cell 5).trans rfl
                have i_61_f5 := Bi_61.frozen 5
                go_wp2_with fail
                go_roundw
                case rel => exact ⟨_, i + 1, rfl, by go_num, by omega, Lib.hid (by rw [HD.out]; simp), Bi_61, bl_step be bl61⟩
                case measure => simp only [intOf]; omega
            · obtain rfl : i = I.sets.length := by omega
              have HN := Lib.hid (show smallB I = !b by rw [HE.out, List.drop_length]; simp)
              clear HE hlt hi
              have o6_z : w.heap.size < wr.heap.size := hBx.lt
              have o6_c0 : wr.cell? ⟨w.heap.size, 0, none⟩ = some (.int .i64 I.kind) := (hBx.cell 0).trans rfl
              have o6_f0 := hBx.frozen 0
              have o6_c1 : wr.cell? ⟨w.heap.size, 1, none⟩ = some (.int .i64 I.cap) := (hBx.cell 1).trans rfl
              have o6_f1 := hBx.frozen 1
              have o6_c2 : wr.cell? ⟨w.heap.size, 2, none⟩ = some (.slice A1 I.items.length c1) := (hBx.cell 2).trans rfl
              have o6_f2 := hBx.frozen 2
              have o6_c3 : wr.cell? ⟨w.heap.size, 3, none⟩ = some (.slice A2 I.cost.length c2) := (hBx.cell 3).trans rfl
              have o6_f3 := hBx.frozen 3
              have o6_c4 : wr.cell? ⟨w.heap.size, 4, none⟩ = some (.int .i64 I.size) := (hBx.cell 4).trans rfl
              have o6_f4 := hBx.frozen 4
              have o6_c5 : wr.cell? ⟨w.heap.size, 5, none⟩ = some (.slice A3 I.sets.length c3) := (hBx.cell 5).trans rfl
              have o6_f5 := hBx.frozen 5
              go_wp2
              go_ret
              exact ⟨by rw [HN.out]; rfl, be⟩
end Go.Proofs.YtklomjpnmmaogaaDoor
