/- The walk of RatioNear: the simplest ratio between every two lies between them, and has no greater Den than either; of two that are the same it is that; it is turned round with both. -/
import Derived.Test.YtkdklmkcanjjfaaDoorRatG
import Derived.Test.YtkdklmkcanjjfaaDoorRatV
namespace Go.Proofs.YtkdklmkcanjjfaaDoor
open Go.RowKit
set_option linter.unusedVariables false
set_option linter.unusedSimpArgs false
set_option maxRecDepth 100000

set_option maxHeartbeats 12800000 in
theorem RatioNear_walk (x0 x1 y0 y1 : Int) (w : World) (hw : RatW w) (i0 : InI x0) (i1 : InI x1) (j0 : InI y0) (j1 : InI y1) :
    Calls Tryd.prog 10 #[.agg #[.int .i64 x0, .int .i64 x1], .agg #[.int .i64 y0, .int .i64 y1]] w fun e w' => e = .returned (.bool true) ∧ Below w.heap.size w w' := by
  have HX := Lib.hid (fun w => some_any x0 x1 w i0 i1)
  have HY := Lib.hid (fun w => some_any y0 y1 w j0 j1)
  have HW := Lib.hid (fun w' (hb : Below w.heap.size w w') => wakes2_any w' (hw.below hb))
  have HL := Lib.hid (rsOf_len x0 x1)
  have HI := Lib.hid (rsOf_in i0 i1)
  have HM := Lib.hid (rsOf_len y0 y1)
  have HJ := Lib.hid (rsOf_in j0 j1)
  generalize rsOf x0 x1 = rs at HX HL HI
  generalize rsOf y0 y1 = ss at HY HM HJ
  go_enter Tryd.func10, Tryd.ntmps10
  go_wp2_with fail
  refine (HX.out _).mono ?_; rintro e v1 ⟨u1, rfl, hown1, hb1⟩; obtain ⟨g1, c1, rfl, hn1, hc1, hg1, hlo1, hr1⟩ := own_pairs hown1 HL.out.1
  have st1 := bl_step (bl_alloc (bl_alloc (Below.refl _ _) _) _) hb1
  have bl1 := st1
  have Bx_1 : Blk v1 (w.heap.size) 31 #[.int .i64 x0, .int .i64 x1] := ((Blk.new _ _ _).alloc _).below hb1
  have By_1 : Blk v1 (w.heap.size + 1) 31 #[.int .i64 y0, .int .i64 y1] := (Blk.new' (by simp) _ _).below hb1
  have x_1_z : w.heap.size < v1.heap.size := Bx_1.lt
  have x_1_c0 : v1.cell? ⟨w.heap.size, 0, none⟩ = some (.int .i64 x0) := (Bx_1.cell 0).trans rfl
  have x_1_f0 := Bx_1.frozen 0
  have x_1_c1 : v1.cell? ⟨w.heap.size, 1, none⟩ = some (.int .i64 x1) := (Bx_1.cell 1).trans rfl
  have x_1_f1 := Bx_1.frozen 1
  have y_1_z : w.heap.size + 1 < v1.heap.size := By_1.lt
  have y_1_c0 : v1.cell? ⟨w.heap.size + 1, 0, none⟩ = some (.int .i64 y0) := (By_1.cell 0).trans rfl
  have y_1_f0 := By_1.frozen 0
  have y_1_c1 : v1.cell? ⟨w.heap.size + 1, 1, none⟩ = some (.int .i64 y1) := (By_1.cell 1).trans rfl
  have y_1_f1 := By_1.frozen 1
  have HR1 := Lib.hid hr1
  clear hr1 x_1_z x_1_c0 x_1_f0 x_1_c1 x_1_f1 y_1_z y_1_c0 y_1_f0 y_1_c1 y_1_f1
  have hl2 := HL.out.2
  go_wp2_with fail
  go_loopw [17] (fun vi wr => ∃ i : Nat, vi = .int .i64 i ∧ i ≤ rs.length ∧ Below v1.heap.size v1 wr) (fun vi _ => rs.length - (intOf vi).toNat)
  case atStart => exact ⟨0, rfl, Nat.zero_le _, Below.refl _ _⟩
  case round =>
    obtain ⟨i, rfl, hi, be⟩ := hrel
    generalize wr = wo at be ⊢
    have blo := bl_step bl1 be
    by_cases hlt : i < rs.length
    · obtain ⟨⟨a, b⟩, hp⟩ : ∃ p, rs[i]? = some p := ⟨_, List.getElem?_eq_getElem hlt⟩
      have hin := HI.out _ (List.mem_of_getElem? hp)
      have cA : wo.cell? ⟨g1, i * 2, none⟩ = some (.int .i64 a) := (be.cell hg1).trans (HR1.out i _ hp).1
      have cB : wo.cell? ⟨g1, i * 2 + 1, none⟩ = some (.int .i64 b) := (be.cell hg1).trans (HR1.out i _ hp).2
      have IA : Hid (InI a) := Lib.hid hin.1
      have IB : Hid (InI b) := Lib.hid hin.2
      clear hp hin
      have y_o_z : w.heap.size + 1 < wo.heap.size := (By_1.below be).lt
      have y_o_c0 : wo.cell? ⟨w.heap.size + 1, 0, none⟩ = some (.int .i64 y0) := ((By_1.below be).cell 0).trans rfl
      have y_o_f0 := (By_1.below be).frozen 0
      have y_o_c1 : wo.cell? ⟨w.heap.size + 1, 1, none⟩ = some (.int .i64 y1) := ((By_1.below be).cell 1).trans rfl
      have y_o_f1 := (By_1.below be).frozen 1
      have bl50 : Below wo.heap.size wo wo := Below.refl _ _
      go_wp2_with fail
      refine (HY.out _).mono ?_; rintro e r51 ⟨u2, rfl, hown2, hb51⟩; obtain ⟨g2, c2, rfl, hn2, hc2, hg2, hlo2, hr2⟩ := own_pairs hown2 HM.out.1
      have st51 := bl_step (bl_alloc (Below.refl _ _) _) hb51
      have bl51 := bl_step bl50 st51
      have Ba_51 : Blk r51 (wo.heap.size) 23 #[.int .i64 a, .int .i64 b] := (Blk.new _ _ _).below hb51
      clear y_o_z y_o_c0 y_o_f0 y_o_c1 y_o_f1
      have By_51 := (By_1.below be).below st51
      have y_51_z : w.heap.size + 1 < r51.heap.size := By_51.lt
      have y_51_c0 : r51.cell? ⟨w.heap.size + 1, 0, none⟩ = some (.int .i64 y0) := (By_51.cell 0).trans rfl
      have y_51_f0 := By_51.frozen 0
      have y_51_c1 : r51.cell? ⟨w.heap.size + 1, 1, none⟩ = some (.int .i64 y1) := (By_51.cell 1).trans rfl
      have y_51_f1 := By_51.frozen 1
      have a_51_z : wo.heap.size < r51.heap.size := Ba_51.lt
      have a_51_c0 : r51.cell? ⟨wo.heap.size, 0, none⟩ = some (.int .i64 a) := (Ba_51.cell 0).trans rfl
      have a_51_f0 := Ba_51.frozen 0
      have a_51_c1 : r51.cell? ⟨wo.heap.size, 1, none⟩ = some (.int .i64 b) := (Ba_51.cell 1).trans rfl
      have a_51_f1 := Ba_51.frozen 1
      have HR2 := Lib.hid hr2
      clear hr2 a_51_z a_51_c0 a_51_f0 a_51_c1 a_51_f1 y_51_z y_51_c0 y_51_f0 y_51_c1 y_51_f1
      have hm2 := HM.out.2
      go_wp2_with fail
      go_loopw [24] (fun vj wr => ∃ j : Nat, vj = .int .i64 j ∧ j ≤ ss.length ∧ Below r51.heap.size r51 wr) (fun vj _ => ss.length - (intOf vj).toNat)
      case atStart => exact ⟨0, rfl, Nat.zero_le _, Below.refl _ _⟩
      case round =>
        obtain ⟨j, rfl, hj, be2⟩ := hrel
        generalize wr = wi at be2 ⊢
        have bli := bl_step bl51 be2
        by_cases hlt2 : j < ss.length
        · obtain ⟨⟨c, d⟩, hq⟩ : ∃ p, ss[j]? = some p := ⟨_, List.getElem?_eq_getElem hlt2⟩
          have hin := HJ.out _ (List.mem_of_getElem? hq)
          have cC : wi.cell? ⟨g2, j * 2, none⟩ = some (.int .i64 c) := (be2.cell hg2).trans (HR2.out j _ hq).1
          have cD : wi.cell? ⟨g2, j * 2 + 1, none⟩ = some (.int .i64 d) := (be2.cell hg2).trans (HR2.out j _ hq).2
          have IC : Hid (InI c) := Lib.hid hin.1
          have ID : Hid (InI d) := Lib.hid hin.2
          clear hq hin
          have bl60 : Below wi.heap.size wi wi := Below.refl _ _
          have a_i_z : wo.heap.size < wi.heap.size := (Ba_51.below be2).lt
          have a_i_c0 : wi.cell? ⟨wo.heap.size, 0, none⟩ = some (.int .i64 a) := ((Ba_51.below be2).cell 0).trans rfl
          have a_i_f0 := (Ba_51.below be2).frozen 0
          have a_i_c1 : wi.cell? ⟨wo.heap.size, 1, none⟩ = some (.int .i64 b) := ((Ba_51.below be2).cell 1).trans rfl
          have a_i_f1 := (Ba_51.below be2).frozen 1
          have H1 := fun w => simplest_any a b c d w IA.out IB.out IC.out ID.out
          have HG1 := fun w => good_any a b w IA.out IB.out
          have HG2 := fun w => good_any c d w IC.out ID.out
          have HC := fun w => rcmp_any a b c d w IA.out IB.out IC.out ID.out
          rcases hs : simpR a b c d with ⟨n, m, ok⟩
          rw [hs] at H1
          have H1 := Lib.hid H1
          cases hg1 : goodB a b
          · have e := near_none (a := a) (b := b) (c := c) (d := d) (by rw [hg1]; simp)
            rw [hs] at e
            simp only [Prod.mk.injEq] at e
            obtain ⟨rfl, rfl, rfl⟩ := e
            rw [hg1] at HG1
            have HG1 := Lib.hid HG1
            clear hs hg1
            go_wp2_with fail
            refine (H1.out _).mono ?_; rintro e s61 ⟨rfl, hb61⟩
            have st61 := bl_step (bl_alloc (Below.refl _ _) _) hb61
            have bl61 := bl_step bl60 st61
            have Bb_61 : Blk s61 (wi.heap.size) 23 #[.int .i64 c, .int .i64 d] := (Blk.new _ _ _).below hb61
            clear a_i_z a_i_c0 a_i_f0 a_i_c1 a_i_f1
            have Ba_61 := (Ba_51.below be2).below st61
            have a_61_z : wo.heap.size < s61.heap.size := Ba_61.lt
            have a_61_c0 : s61.cell? ⟨wo.heap.size, 0, none⟩ = some (.int .i64 a) := (Ba_61.cell 0).trans rfl
            have a_61_f0 := Ba_61.frozen 0
            have a_61_c1 : s61.cell? ⟨wo.heap.size, 1, none⟩ = some (.int .i64 b) := (Ba_61.cell 1).trans rfl
            have a_61_f1 := Ba_61.frozen 1
            have b_61_z : wi.heap.size < s61.heap.size := Bb_61.lt
            have b_61_c0 : s61.cell? ⟨wi.heap.size, 0, none⟩ = some (.int .i64 c) := (Bb_61.cell 0).trans rfl
            have b_61_f0 := Bb_61.frozen 0
            have b_61_c1 : s61.cell? ⟨wi.heap.size, 1, none⟩ = some (.int .i64 d) := (Bb_61.cell 1).trans rfl
            have b_61_f1 := Bb_61.frozen 1
            go_wp2_with fail
            refine (HG1.out _).mono ?_; rintro e s62 ⟨rfl, hb62⟩
            have st62 := bl_step (bl_alloc (Below.refl _ _) _) hb62
            have bl62 := bl_step bl61 st62
            have Br_62 : Blk s62 (s61.heap.size) 23 #[.int .i64 0, .int .i64 0] := (Blk.new _ _ _).below hb62
            clear a_61_z a_61_c0 a_61_f0 a_61_c1 a_61_f1
            have Ba_62 := Ba_61.below st62
            clear b_61_z b_61_c0 b_61_f0 b_61_c1 b_61_f1
            have Bb_62 := Bb_61.below st62
            have a_62_z : wo.heap.size < s62.heap.size := Ba_62.lt
            have a_62_c0 : s62.cell? ⟨wo.heap.size, 0, none⟩ = some (.int .i64 a) := (Ba_62.cell 0).trans rfl
            have a_62_f0 := Ba_62.frozen 0
            have a_62_c1 : s62.cell? ⟨wo.heap.size, 1, none⟩ = some (.int .i64 b) := (Ba_62.cell 1).trans rfl
            have a_62_f1 := Ba_62.frozen 1
            have b_62_z : wi.heap.size < s62.heap.size := Bb_62.lt
            have b_62_c0 : s62.cell? ⟨wi.heap.size, 0, none⟩ = some (.int .i64 c) := (Bb_62.cell 0).trans rfl
            have b_62_f0 := Bb_62.frozen 0
            have b_62_c1 : s62.cell? ⟨wi.heap.size, 1, none⟩ = some (.int .i64 d) := (Bb_62.cell 1).trans rfl
            have b_62_f1 := Bb_62.frozen 1
            have r_62_z : s61.heap.size < s62.heap.size := Br_62.lt
            have r_62_c0 : s62.cell? ⟨s61.heap.size, 0, none⟩ = some (.int .i64 0) := (Br_62.cell 0).trans rfl
            have r_62_f0 := Br_62.frozen 0
            have r_62_c1 : s62.cell? ⟨s61.heap.size, 1, none⟩ = some (.int .i64 0) := (Br_62.cell 1).trans rfl
            have r_62_f1 := Br_62.frozen 1
            go_wp2_with fail
            go_roundw
            case rel => exact ⟨j + 1, by go_num, by omega, bl_step be2 bl62⟩
            case measure => simp only [intOf]; omega
          · rw [hg1] at HG1
            have HG1 := Lib.hid HG1
            cases hg2 : goodB c d
            · have e := near_none (a := a) (b := b) (c := c) (d := d) (by rw [hg2]; simp)
              rw [hs] at e
              simp only [Prod.mk.injEq] at e
              obtain ⟨rfl, rfl, rfl⟩ := e
              rw [hg2] at HG2
              have HG2 := Lib.hid HG2
              clear hs hg1 hg2
              go_wp2_with fail
              refine (H1.out _).mono ?_; rintro e s61 ⟨rfl, hb61⟩
              have st61 := bl_step (bl_alloc (Below.refl _ _) _) hb61
              have bl61 := bl_step bl60 st61
              have Bb_61 : Blk s61 (wi.heap.size) 23 #[.int .i64 c, .int .i64 d] := (Blk.new _ _ _).below hb61
              clear a_i_z a_i_c0 a_i_f0 a_i_c1 a_i_f1
              have Ba_61 := (Ba_51.below be2).below st61
              have a_61_z : wo.heap.size < s61.heap.size := Ba_61.lt
              have a_61_c0 : s61.cell? ⟨wo.heap.size, 0, none⟩ = some (.int .i64 a) := (Ba_61.cell 0).trans rfl
              have a_61_f0 := Ba_61.frozen 0
              have a_61_c1 : s61.cell? ⟨wo.heap.size, 1, none⟩ = some (.int .i64 b) := (Ba_61.cell 1).trans rfl
              have a_61_f1 := Ba_61.frozen 1
              have b_61_z : wi.heap.size < s61.heap.size := Bb_61.lt
              have b_61_c0 : s61.cell? ⟨wi.heap.size, 0, none⟩ = some (.int .i64 c) := (Bb_61.cell 0).trans rfl
              have b_61_f0 := Bb_61.frozen 0
              have b_61_c1 : s61.cell? ⟨wi.heap.size, 1, none⟩ = some (.int .i64 d) := (Bb_61.cell 1).trans rfl
              have b_61_f1 := Bb_61.frozen 1
              go_wp2_with fail
              refine (HG1.out _).mono ?_; rintro e s62 ⟨rfl, hb62⟩
              have st62 := bl_step (bl_alloc (Below.refl _ _) _) hb62
              have bl62 := bl_step bl61 st62
              have Br_62 : Blk s62 (s61.heap.size) 23 #[.int .i64 0, .int .i64 0] := (Blk.new _ _ _).below hb62
              clear a_61_z a_61_c0 a_61_f0 a_61_c1 a_61_f1
              have Ba_62 := Ba_61.below st62
              clear b_61_z b_61_c0 b_61_f0 b_61_c1 b_61_f1
              have Bb_62 := Bb_61.below st62
              have a_62_z : wo.heap.size < s62.heap.size := Ba_62.lt
              have a_62_c0 : s62.cell? ⟨wo.heap.size, 0, none⟩ = some (.int .i64 a) := (Ba_62.cell 0).trans rfl
              have a_62_f0 := Ba_62.frozen 0
              have a_62_c1 : s62.cell? ⟨wo.heap.size, 1, none⟩ = some (.int .i64 b) := (Ba_62.cell 1).trans rfl
              have a_62_f1 := Ba_62.frozen 1
              have b_62_z : wi.heap.size < s62.heap.size := Bb_62.lt
              have b_62_c0 : s62.cell? ⟨wi.heap.size, 0, none⟩ = some (.int .i64 c) := (Bb_62.cell 0).trans rfl
              have b_62_f0 := Bb_62.frozen 0
              have b_62_c1 : s62.cell? ⟨wi.heap.size, 1, none⟩ = some (.int .i64 d) := (Bb_62.cell 1).trans rfl
              have b_62_f1 := Bb_62.frozen 1
              have r_62_z : s61.heap.size < s62.heap.size := Br_62.lt
              have r_62_c0 : s62.cell? ⟨s61.heap.size, 0, none⟩ = some (.int .i64 0) := (Br_62.cell 0).trans rfl
              have r_62_f0 := Br_62.frozen 0
              have r_62_c1 : s62.cell? ⟨s61.heap.size, 1, none⟩ = some (.int .i64 0) := (Br_62.cell 1).trans rfl
              have r_62_f1 := Br_62.frozen 1
              go_wp2_with fail
              refine (HG2.out _).mono ?_; rintro e s63 ⟨rfl, hb63⟩
              have st63 := bl_step (Below.refl _ _) hb63
              have bl63 := bl_step bl62 st63
              clear a_62_z a_62_c0 a_62_f0 a_62_c1 a_62_f1
              have Ba_63 := Ba_62.below st63
              clear b_62_z b_62_c0 b_62_f0 b_62_c1 b_62_f1
              have Bb_63 := Bb_62.below st63
              clear r_62_z r_62_c0 r_62_f0 r_62_c1 r_62_f1
              have Br_63 := Br_62.below st63
              have a_63_z : wo.heap.size < s63.heap.size := Ba_63.lt
              have a_63_c0 : s63.cell? ⟨wo.heap.size, 0, none⟩ = some (.int .i64 a) := (Ba_63.cell 0).trans rfl
              have a_63_f0 := Ba_63.frozen 0
              have a_63_c1 : s63.cell? ⟨wo.heap.size, 1, none⟩ = some (.int .i64 b) := (Ba_63.cell 1).trans rfl
              have a_63_f1 := Ba_63.frozen 1
              have b_63_z : wi.heap.size < s63.heap.size := Bb_63.lt
              have b_63_c0 : s63.cell? ⟨wi.heap.size, 0, none⟩ = some (.int .i64 c) := (Bb_63.cell 0).trans rfl
              have b_63_f0 := Bb_63.frozen 0
              have b_63_c1 : s63.cell? ⟨wi.heap.size, 1, none⟩ = some (.int .i64 d) := (Bb_63.cell 1).trans rfl
              have b_63_f1 := Bb_63.frozen 1
              have r_63_z : s61.heap.size < s63.heap.size := Br_63.lt
              have r_63_c0 : s63.cell? ⟨s61.heap.size, 0, none⟩ = some (.int .i64 0) := (Br_63.cell 0).trans rfl
              have r_63_f0 := Br_63.frozen 0
              have r_63_c1 : s63.cell? ⟨s61.heap.size, 1, none⟩ = some (.int .i64 0) := (Br_63.cell 1).trans rfl
              have r_63_f1 := Br_63.frozen 1
              go_wp2_with fail
              go_roundw
              case rel => exact ⟨j + 1, by go_num, by omega, bl_step be2 bl63⟩
              case measure => simp only [intOf]; omega
            · rw [hg2] at HG2
              have HG2 := Lib.hid HG2
              have hgg : (goodB a b && goodB c d) = true := by rw [hg1, hg2]; rfl
              by_cases hx : cmpR a b c d ≤ 0
              · cases ok
                · obtain ⟨hc0, hmin⟩ := near_wide IA.out IC.out hgg hx (by rw [hs])
                  generalize cmpR a b c d = x at HC hx
                  have HC := Lib.hid HC
                  clear hs hg1 hg2 hgg
                  by_cases ham : a = -9223372036854775808
                  · subst ham
                    clear hmin
                    go_wp2_with fail
                    refine (H1.out _).mono ?_; rintro e s61 ⟨rfl, hb61⟩
                    have st61 := bl_step (bl_alloc (Below.refl _ _) _) hb61
                    have bl61 := bl_step bl60 st61
                    have Bb_61 : Blk s61 (wi.heap.size) 23 #[.int .i64 c, .int .i64 d] := (Blk.new _ _ _).below hb61
                    clear a_i_z a_i_c0 a_i_f0 a_i_c1 a_i_f1
                    have Ba_61 := (Ba_51.below be2).below st61
                    have a_61_z : wo.heap.size < s61.heap.size := Ba_61.lt
                    have a_61_c0 : s61.cell? ⟨wo.heap.size, 0, none⟩ = some (.int .i64 (-9223372036854775808)) := (Ba_61.cell 0).trans rfl
                    have a_61_f0 := Ba_61.frozen 0
                    have a_61_c1 : s61.cell? ⟨wo.heap.size, 1, none⟩ = some (.int .i64 b) := (Ba_61.cell 1).trans rfl
                    have a_61_f1 := Ba_61.frozen 1
                    have b_61_z : wi.heap.size < s61.heap.size := Bb_61.lt
                    have b_61_c0 : s61.cell? ⟨wi.heap.size, 0, none⟩ = some (.int .i64 c) := (Bb_61.cell 0).trans rfl
                    have b_61_f0 := Bb_61.frozen 0
                    have b_61_c1 : s61.cell? ⟨wi.heap.size, 1, none⟩ = some (.int .i64 d) := (Bb_61.cell 1).trans rfl
                    have b_61_f1 := Bb_61.frozen 1
                    go_wp2_with fail
                    refine (HG1.out _).mono ?_; rintro e s62 ⟨rfl, hb62⟩
                    have st62 := bl_step (bl_alloc (Below.refl _ _) _) hb62
                    have bl62 := bl_step bl61 st62
                    have Br_62 : Blk s62 (s61.heap.size) 23 #[.int .i64 n, .int .i64 m] := (Blk.new _ _ _).below hb62
                    clear a_61_z a_61_c0 a_61_f0 a_61_c1 a_61_f1
                    have Ba_62 := Ba_61.below st62
                    clear b_61_z b_61_c0 b_61_f0 b_61_c1 b_61_f1
                    have Bb_62 := Bb_61.below st62
                    have a_62_z : wo.heap.size < s62.heap.size := Ba_62.lt
                    have a_62_c0 : s62.cell? ⟨wo.heap.size, 0, none⟩ = some (.int .i64 (-9223372036854775808)) := (Ba_62.cell 0).trans rfl
                    have a_62_f0 := Ba_62.frozen 0
                    have a_62_c1 : s62.cell? ⟨wo.heap.size, 1, none⟩ = some (.int .i64 b) := (Ba_62.cell 1).trans rfl
                    have a_62_f1 := Ba_62.frozen 1
                    have b_62_z : wi.heap.size < s62.heap.size := Bb_62.lt
                    have b_62_c0 : s62.cell? ⟨wi.heap.size, 0, none⟩ = some (.int .i64 c) := (Bb_62.cell 0).trans rfl
                    have b_62_f0 := Bb_62.frozen 0
                    have b_62_c1 : s62.cell? ⟨wi.heap.size, 1, none⟩ = some (.int .i64 d) := (Bb_62.cell 1).trans rfl
                    have b_62_f1 := Bb_62.frozen 1
                    have r_62_z : s61.heap.size < s62.heap.size := Br_62.lt
                    have r_62_c0 : s62.cell? ⟨s61.heap.size, 0, none⟩ = some (.int .i64 n) := (Br_62.cell 0).trans rfl
                    have r_62_f0 := Br_62.frozen 0
                    have r_62_c1 : s62.cell? ⟨s61.heap.size, 1, none⟩ = some (.int .i64 m) := (Br_62.cell 1).trans rfl
                    have r_62_f1 := Br_62.frozen 1
                    go_wp2_with fail
                    refine (HG2.out _).mono ?_; rintro e s63 ⟨rfl, hb63⟩
                    have st63 := bl_step (Below.refl _ _) hb63
                    have bl63 := bl_step bl62 st63
                    clear a_62_z a_62_c0 a_62_f0 a_62_c1 a_62_f1
                    have Ba_63 := Ba_62.below st63
                    clear b_62_z b_62_c0 b_62_f0 b_62_c1 b_62_f1
                    have Bb_63 := Bb_62.below st63
                    clear r_62_z r_62_c0 r_62_f0 r_62_c1 r_62_f1
                    have Br_63 := Br_62.below st63
                    have a_63_z : wo.heap.size < s63.heap.size := Ba_63.lt
                    have a_63_c0 : s63.cell? ⟨wo.heap.size, 0, none⟩ = some (.int .i64 (-9223372036854775808)) := (Ba_63.cell 0).trans rfl
                    have a_63_f0 := Ba_63.frozen 0
                    have a_63_c1 : s63.cell? ⟨wo.heap.size, 1, none⟩ = some (.int .i64 b) := (Ba_63.cell 1).trans rfl
                    have a_63_f1 := Ba_63.frozen 1
                    have b_63_z : wi.heap.size < s63.heap.size := Bb_63.lt
                    have b_63_c0 : s63.cell? ⟨wi.heap.size, 0, none⟩ = some (.int .i64 c) := (Bb_63.cell 0).trans rfl
                    have b_63_f0 := Bb_63.frozen 0
                    have b_63_c1 : s63.cell? ⟨wi.heap.size, 1, none⟩ = some (.int .i64 d) := (Bb_63.cell 1).trans rfl
                    have b_63_f1 := Bb_63.frozen 1
                    have r_63_z : s61.heap.size < s63.heap.size := Br_63.lt
                    have r_63_c0 : s63.cell? ⟨s61.heap.size, 0, none⟩ = some (.int .i64 n) := (Br_63.cell 0).trans rfl
                    have r_63_f0 := Br_63.frozen 0
                    have r_63_c1 : s63.cell? ⟨s61.heap.size, 1, none⟩ = some (.int .i64 m) := (Br_63.cell 1).trans rfl
                    have r_63_f1 := Br_63.frozen 1
                    go_wp2_with fail
                    refine (HC.out _).mono ?_; rintro e s64 ⟨rfl, hb64⟩
                    have st64 := bl_step (Below.refl _ _) hb64
                    have bl64 := bl_step bl63 st64
                    clear a_63_z a_63_c0 a_63_f0 a_63_c1 a_63_f1
                    have Ba_64 := Ba_63.below st64
                    clear b_63_z b_63_c0 b_63_f0 b_63_c1 b_63_f1
                    have Bb_64 := Bb_63.below st64
                    clear r_63_z r_63_c0 r_63_f0 r_63_c1 r_63_f1
                    have Br_64 := Br_63.below st64
                    have a_64_z : wo.heap.size < s64.heap.size := Ba_64.lt
                    have a_64_c0 : s64.cell? ⟨wo.heap.size, 0, none⟩ = some (.int .i64 (-9223372036854775808)) := (Ba_64.cell 0).trans rfl
                    have a_64_f0 := Ba_64.frozen 0
                    have a_64_c1 : s64.cell? ⟨wo.heap.size, 1, none⟩ = some (.int .i64 b) := (Ba_64.cell 1).trans rfl
                    have a_64_f1 := Ba_64.frozen 1
                    have b_64_z : wi.heap.size < s64.heap.size := Bb_64.lt
                    have b_64_c0 : s64.cell? ⟨wi.heap.size, 0, none⟩ = some (.int .i64 c) := (Bb_64.cell 0).trans rfl
                    have b_64_f0 := Bb_64.frozen 0
                    have b_64_c1 : s64.cell? ⟨wi.heap.size, 1, none⟩ = some (.int .i64 d) := (Bb_64.cell 1).trans rfl
                    have b_64_f1 := Bb_64.frozen 1
                    have r_64_z : s61.heap.size < s64.heap.size := Br_64.lt
                    have r_64_c0 : s64.cell? ⟨s61.heap.size, 0, none⟩ = some (.int .i64 n) := (Br_64.cell 0).trans rfl
                    have r_64_f0 := Br_64.frozen 0
                    have r_64_c1 : s64.cell? ⟨s61.heap.size, 1, none⟩ = some (.int .i64 m) := (Br_64.cell 1).trans rfl
                    have r_64_f1 := Br_64.frozen 1
                    go_wp2_with fail
                    go_roundw
                    case rel => exact ⟨j + 1, by go_num, by omega, bl_step be2 bl64⟩
                    case measure => simp only [intOf]; omega
                  · obtain rfl := hmin.resolve_left ham
                    have ham2 : (a == -9223372036854775808) = false := by simpa using ham
                    clear hmin ham
                    go_wp2_with fail
                    refine (H1.out _).mono ?_; rintro e s61 ⟨rfl, hb61⟩
                    have st61 := bl_step (bl_alloc (Below.refl _ _) _) hb61
                    have bl61 := bl_step bl60 st61
                    have Bb_61 : Blk s61 (wi.heap.size) 23 #[.int .i64 (-9223372036854775808), .int .i64 d] := (Blk.new _ _ _).below hb61
                    clear a_i_z a_i_c0 a_i_f0 a_i_c1 a_i_f1
                    have Ba_61 := (Ba_51.below be2).below st61
                    have a_61_z : wo.heap.size < s61.heap.size := Ba_61.lt
                    have a_61_c0 : s61.cell? ⟨wo.heap.size, 0, none⟩ = some (.int .i64 a) := (Ba_61.cell 0).trans rfl
                    have a_61_f0 := Ba_61.frozen 0
                    have a_61_c1 : s61.cell? ⟨wo.heap.size, 1, none⟩ = some (.int .i64 b) := (Ba_61.cell 1).trans rfl
                    have a_61_f1 := Ba_61.frozen 1
                    have b_61_z : wi.heap.size < s61.heap.size := Bb_61.lt
                    have b_61_c0 : s61.cell? ⟨wi.heap.size, 0, none⟩ = some (.int .i64 (-9223372036854775808)) := (Bb_61.cell 0).trans rfl
                    have b_61_f0 := Bb_61.frozen 0
                    have b_61_c1 : s61.cell? ⟨wi.heap.size, 1, none⟩ = some (.int .i64 d) := (Bb_61.cell 1).trans rfl
                    have b_61_f1 := Bb_61.frozen 1
                    go_wp2_with fail
                    refine (HG1.out _).mono ?_; rintro e s62 ⟨rfl, hb62⟩
                    have st62 := bl_step (bl_alloc (Below.refl _ _) _) hb62
                    have bl62 := bl_step bl61 st62
                    have Br_62 : Blk s62 (s61.heap.size) 23 #[.int .i64 n, .int .i64 m] := (Blk.new _ _ _).below hb62
                    clear a_61_z a_61_c0 a_61_f0 a_61_c1 a_61_f1
                    have Ba_62 := Ba_61.below st62
                    clear b_61_z b_61_c0 b_61_f0 b_61_c1 b_61_f1
                    have Bb_62 := Bb_61.below st62
                    have a_62_z : wo.heap.size < s62.heap.size := Ba_62.lt
                    have a_62_c0 : s62.cell? ⟨wo.heap.size, 0, none⟩ = some (.int .i64 a) := (Ba_62.cell 0).trans rfl
                    have a_62_f0 := Ba_62.frozen 0
                    have a_62_c1 : s62.cell? ⟨wo.heap.size, 1, none⟩ = some (.int .i64 b) := (Ba_62.cell 1).trans rfl
                    have a_62_f1 := Ba_62.frozen 1
                    have b_62_z : wi.heap.size < s62.heap.size := Bb_62.lt
                    have b_62_c0 : s62.cell? ⟨wi.heap.size, 0, none⟩ = some (.int .i64 (-9223372036854775808)) := (Bb_62.cell 0).trans rfl
                    have b_62_f0 := Bb_62.frozen 0
                    have b_62_c1 : s62.cell? ⟨wi.heap.size, 1, none⟩ = some (.int .i64 d) := (Bb_62.cell 1).trans rfl
                    have b_62_f1 := Bb_62.frozen 1
                    have r_62_z : s61.heap.size < s62.heap.size := Br_62.lt
                    have r_62_c0 : s62.cell? ⟨s61.heap.size, 0, none⟩ = some (.int .i64 n) := (Br_62.cell 0).trans rfl
                    have r_62_f0 := Br_62.frozen 0
                    have r_62_c1 : s62.cell? ⟨s61.heap.size, 1, none⟩ = some (.int .i64 m) := (Br_62.cell 1).trans rfl
                    have r_62_f1 := Br_62.frozen 1
                    go_wp2_with fail
                    refine (HG2.out _).mono ?_; rintro e s63 ⟨rfl, hb63⟩
                    have st63 := bl_step (Below.refl _ _) hb63
                    have bl63 := bl_step bl62 st63
                    clear a_62_z a_62_c0 a_62_f0 a_62_c1 a_62_f1
                    have Ba_63 := Ba_62.below st63
                    clear b_62_z b_62_c0 b_62_f0 b_62_c1 b_62_f1
                    have Bb_63 := Bb_62.below st63
                    clear r_62_z r_62_c0 r_62_f0 r_62_c1 r_62_f1
                    have Br_63 := Br_62.below st63
                    have a_63_z : wo.heap.size < s63.heap.size := Ba_63.lt
                    have a_63_c0 : s63.cell? ⟨wo.heap.size, 0, none⟩ = some (.int .i64 a) := (Ba_63.cell 0).trans rfl
                    have a_63_f0 := Ba_63.frozen 0
                    have a_63_c1 : s63.cell? ⟨wo.heap.size, 1, none⟩ = some (.int .i64 b) := (Ba_63.cell 1).trans rfl
                    have a_63_f1 := Ba_63.frozen 1
                    have b_63_z : wi.heap.size < s63.heap.size := Bb_63.lt
                    have b_63_c0 : s63.cell? ⟨wi.heap.size, 0, none⟩ = some (.int .i64 (-9223372036854775808)) := (Bb_63.cell 0).trans rfl
                    have b_63_f0 := Bb_63.frozen 0
                    have b_63_c1 : s63.cell? ⟨wi.heap.size, 1, none⟩ = some (.int .i64 d) := (Bb_63.cell 1).trans rfl
                    have b_63_f1 := Bb_63.frozen 1
                    have r_63_z : s61.heap.size < s63.heap.size := Br_63.lt
                    have r_63_c0 : s63.cell? ⟨s61.heap.size, 0, none⟩ = some (.int .i64 n) := (Br_63.cell 0).trans rfl
                    have r_63_f0 := Br_63.frozen 0
                    have r_63_c1 : s63.cell? ⟨s61.heap.size, 1, none⟩ = some (.int .i64 m) := (Br_63.cell 1).trans rfl
                    have r_63_f1 := Br_63.frozen 1
                    go_wp2_with fail
                    refine (HC.out _).mono ?_; rintro e s64 ⟨rfl, hb64⟩
                    have st64 := bl_step (Below.refl _ _) hb64
                    have bl64 := bl_step bl63 st64
                    clear a_63_z a_63_c0 a_63_f0 a_63_c1 a_63_f1
                    have Ba_64 := Ba_63.below st64
                    clear b_63_z b_63_c0 b_63_f0 b_63_c1 b_63_f1
                    have Bb_64 := Bb_63.below st64
                    clear r_63_z r_63_c0 r_63_f0 r_63_c1 r_63_f1
                    have Br_64 := Br_63.below st64
                    have a_64_z : wo.heap.size < s64.heap.size := Ba_64.lt
                    have a_64_c0 : s64.cell? ⟨wo.heap.size, 0, none⟩ = some (.int .i64 a) := (Ba_64.cell 0).trans rfl
                    have a_64_f0 := Ba_64.frozen 0
                    have a_64_c1 : s64.cell? ⟨wo.heap.size, 1, none⟩ = some (.int .i64 b) := (Ba_64.cell 1).trans rfl
                    have a_64_f1 := Ba_64.frozen 1
                    have b_64_z : wi.heap.size < s64.heap.size := Bb_64.lt
                    have b_64_c0 : s64.cell? ⟨wi.heap.size, 0, none⟩ = some (.int .i64 (-9223372036854775808)) := (Bb_64.cell 0).trans rfl
                    have b_64_f0 := Bb_64.frozen 0
                    have b_64_c1 : s64.cell? ⟨wi.heap.size, 1, none⟩ = some (.int .i64 d) := (Bb_64.cell 1).trans rfl
                    have b_64_f1 := Bb_64.frozen 1
                    have r_64_z : s61.heap.size < s64.heap.size := Br_64.lt
                    have r_64_c0 : s64.cell? ⟨s61.heap.size, 0, none⟩ = some (.int .i64 n) := (Br_64.cell 0).trans rfl
                    have r_64_f0 := Br_64.frozen 0
                    have r_64_c1 : s64.cell? ⟨s61.heap.size, 1, none⟩ = some (.int .i64 m) := (Br_64.cell 1).trans rfl
                    have r_64_f1 := Br_64.frozen 1
                    go_wp2_with fail
                    go_roundw
                    case rel => exact ⟨j + 1, by go_num, by omega, bl_step be2 bl64⟩
                    case measure => simp only [intOf]; omega
                · obtain ⟨k1, k2, k3, k4, k5, k6, k7, k8, k9, _, _, k10⟩ := near_law IA.out IB.out IC.out ID.out hs
                  have HQ := fun w => good_any n m w k7 k8
                  rw [k1] at HQ
                  have HQ := Lib.hid HQ
                  have HU := fun w => rcmp_any a b n m w IA.out IB.out k7 k8
                  have HV := fun w => rcmp_any n m c d w k7 k8 IC.out ID.out
                  generalize cmpR a b c d = x at HC hx
                  generalize cmpR a b n m = u at HU k2
                  generalize cmpR n m c d = v at HV k3
                  have HC := Lib.hid HC
                  have HU := Lib.hid HU
                  have HV := Lib.hid HV
                  have HT : Hid (-9223372036854775808 < a → -9223372036854775808 < c → simpR (-c) d (-a) b = (-n, m, true)) := Lib.hid k9
                  have HS6 : Hid (a = c → b = d → n = a ∧ m = b) := Lib.hid k6
                  have IN := Lib.hid k7
                  clear hs hg1 hg2 hgg k9 k6 k1 k7 k8
                  by_cases hac : a = c
                  · subst hac
                    by_cases hbd : b = d
                    · subst hbd
                      obtain ⟨e1, e2⟩ := HS6.out rfl rfl
                      have e1 := e1.symm
                      have e2 := e2.symm
                      subst e1
                      subst e2
                      clear HS6
                      by_cases ham : a = -9223372036854775808
                      · subst ham
                        clear HT k10
                        go_wp2_with fail
                        refine (H1.out _).mono ?_; rintro e s61 ⟨rfl, hb61⟩
                        have st61 := bl_step (bl_alloc (Below.refl _ _) _) hb61
                        have bl61 := bl_step bl60 st61
                        have Bb_61 : Blk s61 (wi.heap.size) 23 #[.int .i64 (-9223372036854775808), .int .i64 b] := (Blk.new _ _ _).below hb61
                        clear a_i_z a_i_c0 a_i_f0 a_i_c1 a_i_f1
                        have Ba_61 := (Ba_51.below be2).below st61
                        have a_61_z : wo.heap.size < s61.heap.size := Ba_61.lt
                        have a_61_c0 : s61.cell? ⟨wo.heap.size, 0, none⟩ = some (.int .i64 (-9223372036854775808)) := (Ba_61.cell 0).trans rfl
                        have a_61_f0 := Ba_61.frozen 0
                        have a_61_c1 : s61.cell? ⟨wo.heap.size, 1, none⟩ = some (.int .i64 b) := (Ba_61.cell 1).trans rfl
                        have a_61_f1 := Ba_61.frozen 1
                        have b_61_z : wi.heap.size < s61.heap.size := Bb_61.lt
                        have b_61_c0 : s61.cell? ⟨wi.heap.size, 0, none⟩ = some (.int .i64 (-9223372036854775808)) := (Bb_61.cell 0).trans rfl
                        have b_61_f0 := Bb_61.frozen 0
                        have b_61_c1 : s61.cell? ⟨wi.heap.size, 1, none⟩ = some (.int .i64 b) := (Bb_61.cell 1).trans rfl
                        have b_61_f1 := Bb_61.frozen 1
                        go_wp2_with fail
                        refine (HG1.out _).mono ?_; rintro e s62 ⟨rfl, hb62⟩
                        have st62 := bl_step (bl_alloc (Below.refl _ _) _) hb62
                        have bl62 := bl_step bl61 st62
                        have Br_62 : Blk s62 (s61.heap.size) 23 #[.int .i64 (-9223372036854775808), .int .i64 b] := (Blk.new _ _ _).below hb62
                        clear a_61_z a_61_c0 a_61_f0 a_61_c1 a_61_f1
                        have Ba_62 := Ba_61.below st62
                        clear b_61_z b_61_c0 b_61_f0 b_61_c1 b_61_f1
                        have Bb_62 := Bb_61.below st62
                        have a_62_z : wo.heap.size < s62.heap.size := Ba_62.lt
                        have a_62_c0 : s62.cell? ⟨wo.heap.size, 0, none⟩ = some (.int .i64 (-9223372036854775808)) := (Ba_62.cell 0).trans rfl
                        have a_62_f0 := Ba_62.frozen 0
                        have a_62_c1 : s62.cell? ⟨wo.heap.size, 1, none⟩ = some (.int .i64 b) := (Ba_62.cell 1).trans rfl
                        have a_62_f1 := Ba_62.frozen 1
                        have b_62_z : wi.heap.size < s62.heap.size := Bb_62.lt
                        have b_62_c0 : s62.cell? ⟨wi.heap.size, 0, none⟩ = some (.int .i64 (-9223372036854775808)) := (Bb_62.cell 0).trans rfl
                        have b_62_f0 := Bb_62.frozen 0
                        have b_62_c1 : s62.cell? ⟨wi.heap.size, 1, none⟩ = some (.int .i64 b) := (Bb_62.cell 1).trans rfl
                        have b_62_f1 := Bb_62.frozen 1
                        have r_62_z : s61.heap.size < s62.heap.size := Br_62.lt
                        have r_62_c0 : s62.cell? ⟨s61.heap.size, 0, none⟩ = some (.int .i64 (-9223372036854775808)) := (Br_62.cell 0).trans rfl
                        have r_62_f0 := Br_62.frozen 0
                        have r_62_c1 : s62.cell? ⟨s61.heap.size, 1, none⟩ = some (.int .i64 b) := (Br_62.cell 1).trans rfl
                        have r_62_f1 := Br_62.frozen 1
                        go_wp2_with fail
                        refine (HG2.out _).mono ?_; rintro e s63 ⟨rfl, hb63⟩
                        have st63 := bl_step (Below.refl _ _) hb63
                        have bl63 := bl_step bl62 st63
                        clear a_62_z a_62_c0 a_62_f0 a_62_c1 a_62_f1
                        have Ba_63 := Ba_62.below st63
                        clear b_62_z b_62_c0 b_62_f0 b_62_c1 b_62_f1
                        have Bb_63 := Bb_62.below st63
                        clear r_62_z r_62_c0 r_62_f0 r_62_c1 r_62_f1
                        have Br_63 := Br_62.below st63
                        have a_63_z : wo.heap.size < s63.heap.size := Ba_63.lt
                        have a_63_c0 : s63.cell? ⟨wo.heap.size, 0, none⟩ = some (.int .i64 (-9223372036854775808)) := (Ba_63.cell 0).trans rfl
                        have a_63_f0 := Ba_63.frozen 0
                        have a_63_c1 : s63.cell? ⟨wo.heap.size, 1, none⟩ = some (.int .i64 b) := (Ba_63.cell 1).trans rfl
                        have a_63_f1 := Ba_63.frozen 1
                        have b_63_z : wi.heap.size < s63.heap.size := Bb_63.lt
                        have b_63_c0 : s63.cell? ⟨wi.heap.size, 0, none⟩ = some (.int .i64 (-9223372036854775808)) := (Bb_63.cell 0).trans rfl
                        have b_63_f0 := Bb_63.frozen 0
                        have b_63_c1 : s63.cell? ⟨wi.heap.size, 1, none⟩ = some (.int .i64 b) := (Bb_63.cell 1).trans rfl
                        have b_63_f1 := Bb_63.frozen 1
                        have r_63_z : s61.heap.size < s63.heap.size := Br_63.lt
                        have r_63_c0 : s63.cell? ⟨s61.heap.size, 0, none⟩ = some (.int .i64 (-9223372036854775808)) := (Br_63.cell 0).trans rfl
                        have r_63_f0 := Br_63.frozen 0
                        have r_63_c1 : s63.cell? ⟨s61.heap.size, 1, none⟩ = some (.int .i64 b) := (Br_63.cell 1).trans rfl
                        have r_63_f1 := Br_63.frozen 1
                        go_wp2_with fail
                        refine (HC.out _).mono ?_; rintro e s64 ⟨rfl, hb64⟩
                        have st64 := bl_step (Below.refl _ _) hb64
                        have bl64 := bl_step bl63 st64
                        clear a_63_z a_63_c0 a_63_f0 a_63_c1 a_63_f1
                        have Ba_64 := Ba_63.below st64
                        clear b_63_z b_63_c0 b_63_f0 b_63_c1 b_63_f1
                        have Bb_64 := Bb_63.below st64
                        clear r_63_z r_63_c0 r_63_f0 r_63_c1 r_63_f1
                        have Br_64 := Br_63.below st64
                        have a_64_z : wo.heap.size < s64.heap.size := Ba_64.lt
                        have a_64_c0 : s64.cell? ⟨wo.heap.size, 0, none⟩ = some (.int .i64 (-9223372036854775808)) := (Ba_64.cell 0).trans rfl
                        have a_64_f0 := Ba_64.frozen 0
                        have a_64_c1 : s64.cell? ⟨wo.heap.size, 1, none⟩ = some (.int .i64 b) := (Ba_64.cell 1).trans rfl
                        have a_64_f1 := Ba_64.frozen 1
                        have b_64_z : wi.heap.size < s64.heap.size := Bb_64.lt
                        have b_64_c0 : s64.cell? ⟨wi.heap.size, 0, none⟩ = some (.int .i64 (-9223372036854775808)) := (Bb_64.cell 0).trans rfl
                        have b_64_f0 := Bb_64.frozen 0
                        have b_64_c1 : s64.cell? ⟨wi.heap.size, 1, none⟩ = some (.int .i64 b) := (Bb_64.cell 1).trans rfl
                        have b_64_f1 := Bb_64.frozen 1
                        have r_64_z : s61.heap.size < s64.heap.size := Br_64.lt
                        have r_64_c0 : s64.cell? ⟨s61.heap.size, 0, none⟩ = some (.int .i64 (-9223372036854775808)) := (Br_64.cell 0).trans rfl
                        have r_64_f0 := Br_64.frozen 0
                        have r_64_c1 : s64.cell? ⟨s61.heap.size, 1, none⟩ = some (.int .i64 b) := (Br_64.cell 1).trans rfl
                        have r_64_f1 := Br_64.frozen 1
                        go_wp2_with fail
                        refine (HQ.out _).mono ?_; rintro e s65 ⟨rfl, hb65⟩
                        have st65 := bl_step (Below.refl _ _) hb65
                        have bl65 := bl_step bl64 st65
                        clear a_64_z a_64_c0 a_64_f0 a_64_c1 a_64_f1
                        have Ba_65 := Ba_64.below st65
                        clear b_64_z b_64_c0 b_64_f0 b_64_c1 b_64_f1
                        have Bb_65 := Bb_64.below st65
                        clear r_64_z r_64_c0 r_64_f0 r_64_c1 r_64_f1
                        have Br_65 := Br_64.below st65
                        have a_65_z : wo.heap.size < s65.heap.size := Ba_65.lt
                        have a_65_c0 : s65.cell? ⟨wo.heap.size, 0, none⟩ = some (.int .i64 (-9223372036854775808)) := (Ba_65.cell 0).trans rfl
                        have a_65_f0 := Ba_65.frozen 0
                        have a_65_c1 : s65.cell? ⟨wo.heap.size, 1, none⟩ = some (.int .i64 b) := (Ba_65.cell 1).trans rfl
                        have a_65_f1 := Ba_65.frozen 1
                        have b_65_z : wi.heap.size < s65.heap.size := Bb_65.lt
                        have b_65_c0 : s65.cell? ⟨wi.heap.size, 0, none⟩ = some (.int .i64 (-9223372036854775808)) := (Bb_65.cell 0).trans rfl
                        have b_65_f0 := Bb_65.frozen 0
                        have b_65_c1 : s65.cell? ⟨wi.heap.size, 1, none⟩ = some (.int .i64 b) := (Bb_65.cell 1).trans rfl
                        have b_65_f1 := Bb_65.frozen 1
                        have r_65_z : s61.heap.size < s65.heap.size := Br_65.lt
                        have r_65_c0 : s65.cell? ⟨s61.heap.size, 0, none⟩ = some (.int .i64 (-9223372036854775808)) := (Br_65.cell 0).trans rfl
                        have r_65_f0 := Br_65.frozen 0
                        have r_65_c1 : s65.cell? ⟨s61.heap.size, 1, none⟩ = some (.int .i64 b) := (Br_65.cell 1).trans rfl
                        have r_65_f1 := Br_65.frozen 1
                        go_wp2_with fail
                        refine (HU.out _).mono ?_; rintro e s66 ⟨rfl, hb66⟩
                        have st66 := bl_step (Below.refl _ _) hb66
                        have bl66 := bl_step bl65 st66
                        clear a_65_z a_65_c0 a_65_f0 a_65_c1 a_65_f1
                        have Ba_66 := Ba_65.below st66
                        clear b_65_z b_65_c0 b_65_f0 b_65_c1 b_65_f1
                        have Bb_66 := Bb_65.below st66
                        clear r_65_z r_65_c0 r_65_f0 r_65_c1 r_65_f1
                        have Br_66 := Br_65.below st66
                        have a_66_z : wo.heap.size < s66.heap.size := Ba_66.lt
                        have a_66_c0 : s66.cell? ⟨wo.heap.size, 0, none⟩ = some (.int .i64 (-9223372036854775808)) := (Ba_66.cell 0).trans rfl
                        have a_66_f0 := Ba_66.frozen 0
                        have a_66_c1 : s66.cell? ⟨wo.heap.size, 1, none⟩ = some (.int .i64 b) := (Ba_66.cell 1).trans rfl
                        have a_66_f1 := Ba_66.frozen 1
                        have b_66_z : wi.heap.size < s66.heap.size := Bb_66.lt
                        have b_66_c0 : s66.cell? ⟨wi.heap.size, 0, none⟩ = some (.int .i64 (-9223372036854775808)) := (Bb_66.cell 0).trans rfl
                        have b_66_f0 := Bb_66.frozen 0
                        have b_66_c1 : s66.cell? ⟨wi.heap.size, 1, none⟩ = some (.int .i64 b) := (Bb_66.cell 1).trans rfl
                        have b_66_f1 := Bb_66.frozen 1
                        have r_66_z : s61.heap.size < s66.heap.size := Br_66.lt
                        have r_66_c0 : s66.cell? ⟨s61.heap.size, 0, none⟩ = some (.int .i64 (-9223372036854775808)) := (Br_66.cell 0).trans rfl
                        have r_66_f0 := Br_66.frozen 0
                        have r_66_c1 : s66.cell? ⟨s61.heap.size, 1, none⟩ = some (.int .i64 b) := (Br_66.cell 1).trans rfl
                        have r_66_f1 := Br_66.frozen 1
                        go_wp2_with fail
                        refine (HV.out _).mono ?_; rintro e s67 ⟨rfl, hb67⟩
                        have st67 := bl_step (Below.refl _ _) hb67
                        have bl67 := bl_step bl66 st67
                        clear a_66_z a_66_c0 a_66_f0 a_66_c1 a_66_f1
                        have Ba_67 := Ba_66.below st67
                        clear b_66_z b_66_c0 b_66_f0 b_66_c1 b_66_f1
                        have Bb_67 := Bb_66.below st67
                        clear r_66_z r_66_c0 r_66_f0 r_66_c1 r_66_f1
                        have Br_67 := Br_66.below st67
                        have a_67_z : wo.heap.size < s67.heap.size := Ba_67.lt
                        have a_67_c0 : s67.cell? ⟨wo.heap.size, 0, none⟩ = some (.int .i64 (-9223372036854775808)) := (Ba_67.cell 0).trans rfl
                        have a_67_f0 := Ba_67.frozen 0
                        have a_67_c1 : s67.cell? ⟨wo.heap.size, 1, none⟩ = some (.int .i64 b) := (Ba_67.cell 1).trans rfl
                        have a_67_f1 := Ba_67.frozen 1
                        have b_67_z : wi.heap.size < s67.heap.size := Bb_67.lt
                        have b_67_c0 : s67.cell? ⟨wi.heap.size, 0, none⟩ = some (.int .i64 (-9223372036854775808)) := (Bb_67.cell 0).trans rfl
                        have b_67_f0 := Bb_67.frozen 0
                        have b_67_c1 : s67.cell? ⟨wi.heap.size, 1, none⟩ = some (.int .i64 b) := (Bb_67.cell 1).trans rfl
                        have b_67_f1 := Bb_67.frozen 1
                        have r_67_z : s61.heap.size < s67.heap.size := Br_67.lt
                        have r_67_c0 : s67.cell? ⟨s61.heap.size, 0, none⟩ = some (.int .i64 (-9223372036854775808)) := (Br_67.cell 0).trans rfl
                        have r_67_f0 := Br_67.frozen 0
                        have r_67_c1 : s67.cell? ⟨s61.heap.size, 1, none⟩ = some (.int .i64 b) := (Br_67.cell 1).trans rfl
                        have r_67_f1 := Br_67.frozen 1
                        go_wp2_with fail
                        go_roundw
                        case rel => exact ⟨j + 1, by go_num, by omega, bl_step be2 bl67⟩
                        case measure => simp only [intOf]; omega
                      · have ha1 : -9223372036854775808 < a := by have := IA.out.1; omega
                        have ha2 := IA.out.2
                        have hn2 := IN.out.2
                        have H2 := fun w => simplest_any (-a) b (-a) b w ⟨by omega, by omega⟩ ID.out ⟨by omega, by omega⟩ IB.out
                        rw [HT.out ha1 ha1] at H2
                        have H2 := Lib.hid H2
                        clear HT ham
                        go_wp2_with fail
                        refine (H1.out _).mono ?_; rintro e s61 ⟨rfl, hb61⟩
                        have st61 := bl_step (bl_alloc (Below.refl _ _) _) hb61
                        have bl61 := bl_step bl60 st61
                        have Bb_61 : Blk s61 (wi.heap.size) 23 #[.int .i64 a, .int .i64 b] := (Blk.new _ _ _).below hb61
                        clear a_i_z a_i_c0 a_i_f0 a_i_c1 a_i_f1
                        have Ba_61 := (Ba_51.below be2).below st61
                        have a_61_z : wo.heap.size < s61.heap.size := Ba_61.lt
                        have a_61_c0 : s61.cell? ⟨wo.heap.size, 0, none⟩ = some (.int .i64 a) := (Ba_61.cell 0).trans rfl
                        have a_61_f0 := Ba_61.frozen 0
                        have a_61_c1 : s61.cell? ⟨wo.heap.size, 1, none⟩ = some (.int .i64 b) := (Ba_61.cell 1).trans rfl
                        have a_61_f1 := Ba_61.frozen 1
                        have b_61_z : wi.heap.size < s61.heap.size := Bb_61.lt
                        have b_61_c0 : s61.cell? ⟨wi.heap.size, 0, none⟩ = some (.int .i64 a) := (Bb_61.cell 0).trans rfl
                        have b_61_f0 := Bb_61.frozen 0
                        have b_61_c1 : s61.cell? ⟨wi.heap.size, 1, none⟩ = some (.int .i64 b) := (Bb_61.cell 1).trans rfl
                        have b_61_f1 := Bb_61.frozen 1
                        go_wp2_with fail
                        refine (HG1.out _).mono ?_; rintro e s62 ⟨rfl, hb62⟩
                        have st62 := bl_step (bl_alloc (Below.refl _ _) _) hb62
                        have bl62 := bl_step bl61 st62
                        have Br_62 : Blk s62 (s61.heap.size) 23 #[.int .i64 a, .int .i64 b] := (Blk.new _ _ _).below hb62
                        clear a_61_z a_61_c0 a_61_f0 a_61_c1 a_61_f1
                        have Ba_62 := Ba_61.below st62
                        clear b_61_z b_61_c0 b_61_f0 b_61_c1 b_61_f1
                        have Bb_62 := Bb_61.below st62
                        have a_62_z : wo.heap.size < s62.heap.size := Ba_62.lt
                        have a_62_c0 : s62.cell? ⟨wo.heap.size, 0, none⟩ = some (.int .i64 a) := (Ba_62.cell 0).trans rfl
                        have a_62_f0 := Ba_62.frozen 0
                        have a_62_c1 : s62.cell? ⟨wo.heap.size, 1, none⟩ = some (.int .i64 b) := (Ba_62.cell 1).trans rfl
                        have a_62_f1 := Ba_62.frozen 1
                        have b_62_z : wi.heap.size < s62.heap.size := Bb_62.lt
                        have b_62_c0 : s62.cell? ⟨wi.heap.size, 0, none⟩ = some (.int .i64 a) := (Bb_62.cell 0).trans rfl
                        have b_62_f0 := Bb_62.frozen 0
                        have b_62_c1 : s62.cell? ⟨wi.heap.size, 1, none⟩ = some (.int .i64 b) := (Bb_62.cell 1).trans rfl
                        have b_62_f1 := Bb_62.frozen 1
                        have r_62_z : s61.heap.size < s62.heap.size := Br_62.lt
                        have r_62_c0 : s62.cell? ⟨s61.heap.size, 0, none⟩ = some (.int .i64 a) := (Br_62.cell 0).trans rfl
                        have r_62_f0 := Br_62.frozen 0
                        have r_62_c1 : s62.cell? ⟨s61.heap.size, 1, none⟩ = some (.int .i64 b) := (Br_62.cell 1).trans rfl
                        have r_62_f1 := Br_62.frozen 1
                        go_wp2_with fail
                        refine (HG2.out _).mono ?_; rintro e s63 ⟨rfl, hb63⟩
                        have st63 := bl_step (Below.refl _ _) hb63
                        have bl63 := bl_step bl62 st63
                        clear a_62_z a_62_c0 a_62_f0 a_62_c1 a_62_f1
                        have Ba_63 := Ba_62.below st63
                        clear b_62_z b_62_c0 b_62_f0 b_62_c1 b_62_f1
                        have Bb_63 := Bb_62.below st63
                        clear r_62_z r_62_c0 r_62_f0 r_62_c1 r_62_f1
                        have Br_63 := Br_62.below st63
                        have a_63_z : wo.heap.size < s63.heap.size := Ba_63.lt
                        have a_63_c0 : s63.cell? ⟨wo.heap.size, 0, none⟩ = some (.int .i64 a) := (Ba_63.cell 0).trans rfl
                        have a_63_f0 := Ba_63.frozen 0
                        have a_63_c1 : s63.cell? ⟨wo.heap.size, 1, none⟩ = some (.int .i64 b) := (Ba_63.cell 1).trans rfl
                        have a_63_f1 := Ba_63.frozen 1
                        have b_63_z : wi.heap.size < s63.heap.size := Bb_63.lt
                        have b_63_c0 : s63.cell? ⟨wi.heap.size, 0, none⟩ = some (.int .i64 a) := (Bb_63.cell 0).trans rfl
                        have b_63_f0 := Bb_63.frozen 0
                        have b_63_c1 : s63.cell? ⟨wi.heap.size, 1, none⟩ = some (.int .i64 b) := (Bb_63.cell 1).trans rfl
                        have b_63_f1 := Bb_63.frozen 1
                        have r_63_z : s61.heap.size < s63.heap.size := Br_63.lt
                        have r_63_c0 : s63.cell? ⟨s61.heap.size, 0, none⟩ = some (.int .i64 a) := (Br_63.cell 0).trans rfl
                        have r_63_f0 := Br_63.frozen 0
                        have r_63_c1 : s63.cell? ⟨s61.heap.size, 1, none⟩ = some (.int .i64 b) := (Br_63.cell 1).trans rfl
                        have r_63_f1 := Br_63.frozen 1
                        go_wp2_with fail
                        refine (HC.out _).mono ?_; rintro e s64 ⟨rfl, hb64⟩
                        have st64 := bl_step (Below.refl _ _) hb64
                        have bl64 := bl_step bl63 st64
                        clear a_63_z a_63_c0 a_63_f0 a_63_c1 a_63_f1
                        have Ba_64 := Ba_63.below st64
                        clear b_63_z b_63_c0 b_63_f0 b_63_c1 b_63_f1
                        have Bb_64 := Bb_63.below st64
                        clear r_63_z r_63_c0 r_63_f0 r_63_c1 r_63_f1
                        have Br_64 := Br_63.below st64
                        have a_64_z : wo.heap.size < s64.heap.size := Ba_64.lt
                        have a_64_c0 : s64.cell? ⟨wo.heap.size, 0, none⟩ = some (.int .i64 a) := (Ba_64.cell 0).trans rfl
                        have a_64_f0 := Ba_64.frozen 0
                        have a_64_c1 : s64.cell? ⟨wo.heap.size, 1, none⟩ = some (.int .i64 b) := (Ba_64.cell 1).trans rfl
                        have a_64_f1 := Ba_64.frozen 1
                        have b_64_z : wi.heap.size < s64.heap.size := Bb_64.lt
                        have b_64_c0 : s64.cell? ⟨wi.heap.size, 0, none⟩ = some (.int .i64 a) := (Bb_64.cell 0).trans rfl
                        have b_64_f0 := Bb_64.frozen 0
                        have b_64_c1 : s64.cell? ⟨wi.heap.size, 1, none⟩ = some (.int .i64 b) := (Bb_64.cell 1).trans rfl
                        have b_64_f1 := Bb_64.frozen 1
                        have r_64_z : s61.heap.size < s64.heap.size := Br_64.lt
                        have r_64_c0 : s64.cell? ⟨s61.heap.size, 0, none⟩ = some (.int .i64 a) := (Br_64.cell 0).trans rfl
                        have r_64_f0 := Br_64.frozen 0
                        have r_64_c1 : s64.cell? ⟨s61.heap.size, 1, none⟩ = some (.int .i64 b) := (Br_64.cell 1).trans rfl
                        have r_64_f1 := Br_64.frozen 1
                        go_wp2_with fail
                        refine (HQ.out _).mono ?_; rintro e s65 ⟨rfl, hb65⟩
                        have st65 := bl_step (Below.refl _ _) hb65
                        have bl65 := bl_step bl64 st65
                        clear a_64_z a_64_c0 a_64_f0 a_64_c1 a_64_f1
                        have Ba_65 := Ba_64.below st65
                        clear b_64_z b_64_c0 b_64_f0 b_64_c1 b_64_f1
                        have Bb_65 := Bb_64.below st65
                        clear r_64_z r_64_c0 r_64_f0 r_64_c1 r_64_f1
                        have Br_65 := Br_64.below st65
                        have a_65_z : wo.heap.size < s65.heap.size := Ba_65.lt
                        have a_65_c0 : s65.cell? ⟨wo.heap.size, 0, none⟩ = some (.int .i64 a) := (Ba_65.cell 0).trans rfl
                        have a_65_f0 := Ba_65.frozen 0
                        have a_65_c1 : s65.cell? ⟨wo.heap.size, 1, none⟩ = some (.int .i64 b) := (Ba_65.cell 1).trans rfl
                        have a_65_f1 := Ba_65.frozen 1
                        have b_65_z : wi.heap.size < s65.heap.size := Bb_65.lt
                        have b_65_c0 : s65.cell? ⟨wi.heap.size, 0, none⟩ = some (.int .i64 a) := (Bb_65.cell 0).trans rfl
                        have b_65_f0 := Bb_65.frozen 0
                        have b_65_c1 : s65.cell? ⟨wi.heap.size, 1, none⟩ = some (.int .i64 b) := (Bb_65.cell 1).trans rfl
                        have b_65_f1 := Bb_65.frozen 1
                        have r_65_z : s61.heap.size < s65.heap.size := Br_65.lt
                        have r_65_c0 : s65.cell? ⟨s61.heap.size, 0, none⟩ = some (.int .i64 a) := (Br_65.cell 0).trans rfl
                        have r_65_f0 := Br_65.frozen 0
                        have r_65_c1 : s65.cell? ⟨s61.heap.size, 1, none⟩ = some (.int .i64 b) := (Br_65.cell 1).trans rfl
                        have r_65_f1 := Br_65.frozen 1
                        go_wp2_with fail
                        refine (HU.out _).mono ?_; rintro e s66 ⟨rfl, hb66⟩
                        have st66 := bl_step (Below.refl _ _) hb66
                        have bl66 := bl_step bl65 st66
                        clear a_65_z a_65_c0 a_65_f0 a_65_c1 a_65_f1
                        have Ba_66 := Ba_65.below st66
                        clear b_65_z b_65_c0 b_65_f0 b_65_c1 b_65_f1
                        have Bb_66 := Bb_65.below st66
                        clear r_65_z r_65_c0 r_65_f0 r_65_c1 r_65_f1
                        have Br_66 := Br_65.below st66
                        have a_66_z : wo.heap.size < s66.heap.size := Ba_66.lt
                        have a_66_c0 : s66.cell? ⟨wo.heap.size, 0, none⟩ = some (.int .i64 a) := (Ba_66.cell 0).trans rfl
                        have a_66_f0 := Ba_66.frozen 0
                        have a_66_c1 : s66.cell? ⟨wo.heap.size, 1, none⟩ = some (.int .i64 b) := (Ba_66.cell 1).trans rfl
                        have a_66_f1 := Ba_66.frozen 1
                        have b_66_z : wi.heap.size < s66.heap.size := Bb_66.lt
                        have b_66_c0 : s66.cell? ⟨wi.heap.size, 0, none⟩ = some (.int .i64 a) := (Bb_66.cell 0).trans rfl
                        have b_66_f0 := Bb_66.frozen 0
                        have b_66_c1 : s66.cell? ⟨wi.heap.size, 1, none⟩ = some (.int .i64 b) := (Bb_66.cell 1).trans rfl
                        have b_66_f1 := Bb_66.frozen 1
                        have r_66_z : s61.heap.size < s66.heap.size := Br_66.lt
                        have r_66_c0 : s66.cell? ⟨s61.heap.size, 0, none⟩ = some (.int .i64 a) := (Br_66.cell 0).trans rfl
                        have r_66_f0 := Br_66.frozen 0
                        have r_66_c1 : s66.cell? ⟨s61.heap.size, 1, none⟩ = some (.int .i64 b) := (Br_66.cell 1).trans rfl
                        have r_66_f1 := Br_66.frozen 1
                        go_wp2_with fail
                        refine (HV.out _).mono ?_; rintro e s67 ⟨rfl, hb67⟩
                        have st67 := bl_step (Below.refl _ _) hb67
                        have bl67 := bl_step bl66 st67
                        clear a_66_z a_66_c0 a_66_f0 a_66_c1 a_66_f1
                        have Ba_67 := Ba_66.below st67
                        clear b_66_z b_66_c0 b_66_f0 b_66_c1 b_66_f1
                        have Bb_67 := Bb_66.below st67
                        clear r_66_z r_66_c0 r_66_f0 r_66_c1 r_66_f1
                        have Br_67 := Br_66.below st67
                        have a_67_z : wo.heap.size < s67.heap.size := Ba_67.lt
                        have a_67_c0 : s67.cell? ⟨wo.heap.size, 0, none⟩ = some (.int .i64 a) := (Ba_67.cell 0).trans rfl
                        have a_67_f0 := Ba_67.frozen 0
                        have a_67_c1 : s67.cell? ⟨wo.heap.size, 1, none⟩ = some (.int .i64 b) := (Ba_67.cell 1).trans rfl
                        have a_67_f1 := Ba_67.frozen 1
                        have b_67_z : wi.heap.size < s67.heap.size := Bb_67.lt
                        have b_67_c0 : s67.cell? ⟨wi.heap.size, 0, none⟩ = some (.int .i64 a) := (Bb_67.cell 0).trans rfl
                        have b_67_f0 := Bb_67.frozen 0
                        have b_67_c1 : s67.cell? ⟨wi.heap.size, 1, none⟩ = some (.int .i64 b) := (Bb_67.cell 1).trans rfl
                        have b_67_f1 := Bb_67.frozen 1
                        have r_67_z : s61.heap.size < s67.heap.size := Br_67.lt
                        have r_67_c0 : s67.cell? ⟨s61.heap.size, 0, none⟩ = some (.int .i64 a) := (Br_67.cell 0).trans rfl
                        have r_67_f0 := Br_67.frozen 0
                        have r_67_c1 : s67.cell? ⟨s61.heap.size, 1, none⟩ = some (.int .i64 b) := (Br_67.cell 1).trans rfl
                        have r_67_f1 := Br_67.frozen 1
                        go_wp2_with fail
                        refine (H2.out _).mono ?_; rintro e s68 ⟨rfl, hb68⟩
                        have st68 := bl_step (Below.refl _ _) hb68
                        have bl68 := bl_step bl67 st68
                        clear a_67_z a_67_c0 a_67_f0 a_67_c1 a_67_f1
                        have Ba_68 := Ba_67.below st68
                        clear b_67_z b_67_c0 b_67_f0 b_67_c1 b_67_f1
                        have Bb_68 := Bb_67.below st68
                        clear r_67_z r_67_c0 r_67_f0 r_67_c1 r_67_f1
                        have Br_68 := Br_67.below st68
                        have a_68_z : wo.heap.size < s68.heap.size := Ba_68.lt
                        have a_68_c0 : s68.cell? ⟨wo.heap.size, 0, none⟩ = some (.int .i64 a) := (Ba_68.cell 0).trans rfl
                        have a_68_f0 := Ba_68.frozen 0
                        have a_68_c1 : s68.cell? ⟨wo.heap.size, 1, none⟩ = some (.int .i64 b) := (Ba_68.cell 1).trans rfl
                        have a_68_f1 := Ba_68.frozen 1
                        have b_68_z : wi.heap.size < s68.heap.size := Bb_68.lt
                        have b_68_c0 : s68.cell? ⟨wi.heap.size, 0, none⟩ = some (.int .i64 a) := (Bb_68.cell 0).trans rfl
                        have b_68_f0 := Bb_68.frozen 0
                        have b_68_c1 : s68.cell? ⟨wi.heap.size, 1, none⟩ = some (.int .i64 b) := (Bb_68.cell 1).trans rfl
                        have b_68_f1 := Bb_68.frozen 1
                        have r_68_z : s61.heap.size < s68.heap.size := Br_68.lt
                        have r_68_c0 : s68.cell? ⟨s61.heap.size, 0, none⟩ = some (.int .i64 a) := (Br_68.cell 0).trans rfl
                        have r_68_f0 := Br_68.frozen 0
                        have r_68_c1 : s68.cell? ⟨s61.heap.size, 1, none⟩ = some (.int .i64 b) := (Br_68.cell 1).trans rfl
                        have r_68_f1 := Br_68.frozen 1
                        go_wp2_with fail
                        go_roundw
                        case rel => exact ⟨j + 1, by go_num, by omega, bl_step be2 (bl_alloc bl68 _)⟩
                        case measure => simp only [intOf]; omega
                    · have hbd2 : (b == d) = false := by simpa using hbd
                      clear HS6 hbd
                      by_cases ham : a = -9223372036854775808
                      · subst ham
                        clear HT k10
                        go_wp2_with fail
                        refine (H1.out _).mono ?_; rintro e s61 ⟨rfl, hb61⟩
                        have st61 := bl_step (bl_alloc (Below.refl _ _) _) hb61
                        have bl61 := bl_step bl60 st61
                        have Bb_61 : Blk s61 (wi.heap.size) 23 #[.int .i64 (-9223372036854775808), .int .i64 d] := (Blk.new _ _ _).below hb61
                        clear a_i_z a_i_c0 a_i_f0 a_i_c1 a_i_f1
                        have Ba_61 := (Ba_51.below be2).below st61
                        have a_61_z : wo.heap.size < s61.heap.size := Ba_61.lt
                        have a_61_c0 : s61.cell? ⟨wo.heap.size, 0, none⟩ = some (.int .i64 (-9223372036854775808)) := (Ba_61.cell 0).trans rfl
                        have a_61_f0 := Ba_61.frozen 0
                        have a_61_c1 : s61.cell? ⟨wo.heap.size, 1, none⟩ = some (.int .i64 b) := (Ba_61.cell 1).trans rfl
                        have a_61_f1 := Ba_61.frozen 1
                        have b_61_z : wi.heap.size < s61.heap.size := Bb_61.lt
                        have b_61_c0 : s61.cell? ⟨wi.heap.size, 0, none⟩ = some (.int .i64 (-9223372036854775808)) := (Bb_61.cell 0).trans rfl
                        have b_61_f0 := Bb_61.frozen 0
                        have b_61_c1 : s61.cell? ⟨wi.heap.size, 1, none⟩ = some (.int .i64 d) := (Bb_61.cell 1).trans rfl
                        have b_61_f1 := Bb_61.frozen 1
                        go_wp2_with fail
                        refine (HG1.out _).mono ?_; rintro e s62 ⟨rfl, hb62⟩
                        have st62 := bl_step (bl_alloc (Below.refl _ _) _) hb62
                        have bl62 := bl_step bl61 st62
                        have Br_62 : Blk s62 (s61.heap.size) 23 #[.int .i64 n, .int .i64 m] := (Blk.new _ _ _).below hb62
                        clear a_61_z a_61_c0 a_61_f0 a_61_c1 a_61_f1
                        have Ba_62 := Ba_61.below st62
                        clear b_61_z b_61_c0 b_61_f0 b_61_c1 b_61_f1
                        have Bb_62 := Bb_61.below st62
                        have a_62_z : wo.heap.size < s62.heap.size := Ba_62.lt
                        have a_62_c0 : s62.cell? ⟨wo.heap.size, 0, none⟩ = some (.int .i64 (-9223372036854775808)) := (Ba_62.cell 0).trans rfl
                        have a_62_f0 := Ba_62.frozen 0
                        have a_62_c1 : s62.cell? ⟨wo.heap.size, 1, none⟩ = some (.int .i64 b) := (Ba_62.cell 1).trans rfl
                        have a_62_f1 := Ba_62.frozen 1
                        have b_62_z : wi.heap.size < s62.heap.size := Bb_62.lt
                        have b_62_c0 : s62.cell? ⟨wi.heap.size, 0, none⟩ = some (.int .i64 (-9223372036854775808)) := (Bb_62.cell 0).trans rfl
                        have b_62_f0 := Bb_62.frozen 0
                        have b_62_c1 : s62.cell? ⟨wi.heap.size, 1, none⟩ = some (.int .i64 d) := (Bb_62.cell 1).trans rfl
                        have b_62_f1 := Bb_62.frozen 1
                        have r_62_z : s61.heap.size < s62.heap.size := Br_62.lt
                        have r_62_c0 : s62.cell? ⟨s61.heap.size, 0, none⟩ = some (.int .i64 n) := (Br_62.cell 0).trans rfl
                        have r_62_f0 := Br_62.frozen 0
                        have r_62_c1 : s62.cell? ⟨s61.heap.size, 1, none⟩ = some (.int .i64 m) := (Br_62.cell 1).trans rfl
                        have r_62_f1 := Br_62.frozen 1
                        go_wp2_with fail
                        refine (HG2.out _).mono ?_; rintro e s63 ⟨rfl, hb63⟩
                        have st63 := bl_step (Below.refl _ _) hb63
                        have bl63 := bl_step bl62 st63
                        clear a_62_z a_62_c0 a_62_f0 a_62_c1 a_62_f1
                        have Ba_63 := Ba_62.below st63
                        clear b_62_z b_62_c0 b_62_f0 b_62_c1 b_62_f1
                        have Bb_63 := Bb_62.below st63
                        clear r_62_z r_62_c0 r_62_f0 r_62_c1 r_62_f1
                        have Br_63 := Br_62.below st63
                        have a_63_z : wo.heap.size < s63.heap.size := Ba_63.lt
                        have a_63_c0 : s63.cell? ⟨wo.heap.size, 0, none⟩ = some (.int .i64 (-9223372036854775808)) := (Ba_63.cell 0).trans rfl
                        have a_63_f0 := Ba_63.frozen 0
                        have a_63_c1 : s63.cell? ⟨wo.heap.size, 1, none⟩ = some (.int .i64 b) := (Ba_63.cell 1).trans rfl
                        have a_63_f1 := Ba_63.frozen 1
                        have b_63_z : wi.heap.size < s63.heap.size := Bb_63.lt
                        have b_63_c0 : s63.cell? ⟨wi.heap.size, 0, none⟩ = some (.int .i64 (-9223372036854775808)) := (Bb_63.cell 0).trans rfl
                        have b_63_f0 := Bb_63.frozen 0
                        have b_63_c1 : s63.cell? ⟨wi.heap.size, 1, none⟩ = some (.int .i64 d) := (Bb_63.cell 1).trans rfl
                        have b_63_f1 := Bb_63.frozen 1
                        have r_63_z : s61.heap.size < s63.heap.size := Br_63.lt
                        have r_63_c0 : s63.cell? ⟨s61.heap.size, 0, none⟩ = some (.int .i64 n) := (Br_63.cell 0).trans rfl
                        have r_63_f0 := Br_63.frozen 0
                        have r_63_c1 : s63.cell? ⟨s61.heap.size, 1, none⟩ = some (.int .i64 m) := (Br_63.cell 1).trans rfl
                        have r_63_f1 := Br_63.frozen 1
                        go_wp2_with fail
                        refine (HC.out _).mono ?_; rintro e s64 ⟨rfl, hb64⟩
                        have st64 := bl_step (Below.refl _ _) hb64
                        have bl64 := bl_step bl63 st64
                        clear a_63_z a_63_c0 a_63_f0 a_63_c1 a_63_f1
                        have Ba_64 := Ba_63.below st64
                        clear b_63_z b_63_c0 b_63_f0 b_63_c1 b_63_f1
                        have Bb_64 := Bb_63.below st64
                        clear r_63_z r_63_c0 r_63_f0 r_63_c1 r_63_f1
                        have Br_64 := Br_63.below st64
                        have a_64_z : wo.heap.size < s64.heap.size := Ba_64.lt
                        have a_64_c0 : s64.cell? ⟨wo.heap.size, 0, none⟩ = some (.int .i64 (-9223372036854775808)) := (Ba_64.cell 0).trans rfl
                        have a_64_f0 := Ba_64.frozen 0
                        have a_64_c1 : s64.cell? ⟨wo.heap.size, 1, none⟩ = some (.int .i64 b) := (Ba_64.cell 1).trans rfl
                        have a_64_f1 := Ba_64.frozen 1
                        have b_64_z : wi.heap.size < s64.heap.size := Bb_64.lt
                        have b_64_c0 : s64.cell? ⟨wi.heap.size, 0, none⟩ = some (.int .i64 (-9223372036854775808)) := (Bb_64.cell 0).trans rfl
                        have b_64_f0 := Bb_64.frozen 0
                        have b_64_c1 : s64.cell? ⟨wi.heap.size, 1, none⟩ = some (.int .i64 d) := (Bb_64.cell 1).trans rfl
                        have b_64_f1 := Bb_64.frozen 1
                        have r_64_z : s61.heap.size < s64.heap.size := Br_64.lt
                        have r_64_c0 : s64.cell? ⟨s61.heap.size, 0, none⟩ = some (.int .i64 n) := (Br_64.cell 0).trans rfl
                        have r_64_f0 := Br_64.frozen 0
                        have r_64_c1 : s64.cell? ⟨s61.heap.size, 1, none⟩ = some (.int .i64 m) := (Br_64.cell 1).trans rfl
                        have r_64_f1 := Br_64.frozen 1
                        go_wp2_with fail
                        refine (HQ.out _).mono ?_; rintro e s65 ⟨rfl, hb65⟩
                        have st65 := bl_step (Below.refl _ _) hb65
                        have bl65 := bl_step bl64 st65
                        clear a_64_z a_64_c0 a_64_f0 a_64_c1 a_64_f1
                        have Ba_65 := Ba_64.below st65
                        clear b_64_z b_64_c0 b_64_f0 b_64_c1 b_64_f1
                        have Bb_65 := Bb_64.below st65
                        clear r_64_z r_64_c0 r_64_f0 r_64_c1 r_64_f1
                        have Br_65 := Br_64.below st65
                        have a_65_z : wo.heap.size < s65.heap.size := Ba_65.lt
                        have a_65_c0 : s65.cell? ⟨wo.heap.size, 0, none⟩ = some (.int .i64 (-9223372036854775808)) := (Ba_65.cell 0).trans rfl
                        have a_65_f0 := Ba_65.frozen 0
                        have a_65_c1 : s65.cell? ⟨wo.heap.size, 1, none⟩ = some (.int .i64 b) := (Ba_65.cell 1).trans rfl
                        have a_65_f1 := Ba_65.frozen 1
                        have b_65_z : wi.heap.size < s65.heap.size := Bb_65.lt
                        have b_65_c0 : s65.cell? ⟨wi.heap.size, 0, none⟩ = some (.int .i64 (-9223372036854775808)) := (Bb_65.cell 0).trans rfl
                        have b_65_f0 := Bb_65.frozen 0
                        have b_65_c1 : s65.cell? ⟨wi.heap.size, 1, none⟩ = some (.int .i64 d) := (Bb_65.cell 1).trans rfl
                        have b_65_f1 := Bb_65.frozen 1
                        have r_65_z : s61.heap.size < s65.heap.size := Br_65.lt
                        have r_65_c0 : s65.cell? ⟨s61.heap.size, 0, none⟩ = some (.int .i64 n) := (Br_65.cell 0).trans rfl
                        have r_65_f0 := Br_65.frozen 0
                        have r_65_c1 : s65.cell? ⟨s61.heap.size, 1, none⟩ = some (.int .i64 m) := (Br_65.cell 1).trans rfl
                        have r_65_f1 := Br_65.frozen 1
                        go_wp2_with fail
                        refine (HU.out _).mono ?_; rintro e s66 ⟨rfl, hb66⟩
                        have st66 := bl_step (Below.refl _ _) hb66
                        have bl66 := bl_step bl65 st66
                        clear a_65_z a_65_c0 a_65_f0 a_65_c1 a_65_f1
                        have Ba_66 := Ba_65.below st66
                        clear b_65_z b_65_c0 b_65_f0 b_65_c1 b_65_f1
                        have Bb_66 := Bb_65.below st66
                        clear r_65_z r_65_c0 r_65_f0 r_65_c1 r_65_f1
                        have Br_66 := Br_65.below st66
                        have a_66_z : wo.heap.size < s66.heap.size := Ba_66.lt
                        have a_66_c0 : s66.cell? ⟨wo.heap.size, 0, none⟩ = some (.int .i64 (-9223372036854775808)) := (Ba_66.cell 0).trans rfl
                        have a_66_f0 := Ba_66.frozen 0
                        have a_66_c1 : s66.cell? ⟨wo.heap.size, 1, none⟩ = some (.int .i64 b) := (Ba_66.cell 1).trans rfl
                        have a_66_f1 := Ba_66.frozen 1
                        have b_66_z : wi.heap.size < s66.heap.size := Bb_66.lt
                        have b_66_c0 : s66.cell? ⟨wi.heap.size, 0, none⟩ = some (.int .i64 (-9223372036854775808)) := (Bb_66.cell 0).trans rfl
                        have b_66_f0 := Bb_66.frozen 0
                        have b_66_c1 : s66.cell? ⟨wi.heap.size, 1, none⟩ = some (.int .i64 d) := (Bb_66.cell 1).trans rfl
                        have b_66_f1 := Bb_66.frozen 1
                        have r_66_z : s61.heap.size < s66.heap.size := Br_66.lt
                        have r_66_c0 : s66.cell? ⟨s61.heap.size, 0, none⟩ = some (.int .i64 n) := (Br_66.cell 0).trans rfl
                        have r_66_f0 := Br_66.frozen 0
                        have r_66_c1 : s66.cell? ⟨s61.heap.size, 1, none⟩ = some (.int .i64 m) := (Br_66.cell 1).trans rfl
                        have r_66_f1 := Br_66.frozen 1
                        go_wp2_with fail
                        refine (HV.out _).mono ?_; rintro e s67 ⟨rfl, hb67⟩
                        have st67 := bl_step (Below.refl _ _) hb67
                        have bl67 := bl_step bl66 st67
                        clear a_66_z a_66_c0 a_66_f0 a_66_c1 a_66_f1
                        have Ba_67 := Ba_66.below st67
                        clear b_66_z b_66_c0 b_66_f0 b_66_c1 b_66_f1
                        have Bb_67 := Bb_66.below st67
                        clear r_66_z r_66_c0 r_66_f0 r_66_c1 r_66_f1
                        have Br_67 := Br_66.below st67
                        have a_67_z : wo.heap.size < s67.heap.size := Ba_67.lt
                        have a_67_c0 : s67.cell? ⟨wo.heap.size, 0, none⟩ = some (.int .i64 (-9223372036854775808)) := (Ba_67.cell 0).trans rfl
                        have a_67_f0 := Ba_67.frozen 0
                        have a_67_c1 : s67.cell? ⟨wo.heap.size, 1, none⟩ = some (.int .i64 b) := (Ba_67.cell 1).trans rfl
                        have a_67_f1 := Ba_67.frozen 1
                        have b_67_z : wi.heap.size < s67.heap.size := Bb_67.lt
                        have b_67_c0 : s67.cell? ⟨wi.heap.size, 0, none⟩ = some (.int .i64 (-9223372036854775808)) := (Bb_67.cell 0).trans rfl
                        have b_67_f0 := Bb_67.frozen 0
                        have b_67_c1 : s67.cell? ⟨wi.heap.size, 1, none⟩ = some (.int .i64 d) := (Bb_67.cell 1).trans rfl
                        have b_67_f1 := Bb_67.frozen 1
                        have r_67_z : s61.heap.size < s67.heap.size := Br_67.lt
                        have r_67_c0 : s67.cell? ⟨s61.heap.size, 0, none⟩ = some (.int .i64 n) := (Br_67.cell 0).trans rfl
                        have r_67_f0 := Br_67.frozen 0
                        have r_67_c1 : s67.cell? ⟨s61.heap.size, 1, none⟩ = some (.int .i64 m) := (Br_67.cell 1).trans rfl
                        have r_67_f1 := Br_67.frozen 1
                        go_wp2_with fail
                        go_roundw
                        case rel => exact ⟨j + 1, by go_num, by omega, bl_step be2 bl67⟩
                        case measure => simp only [intOf]; omega
                      · have ha1 : -9223372036854775808 < a := by have := IA.out.1; omega
                        have ha2 := IA.out.2
                        have hn2 := IN.out.2
                        have H2 := fun w => simplest_any (-a) d (-a) b w ⟨by omega, by omega⟩ ID.out ⟨by omega, by omega⟩ IB.out
                        rw [HT.out ha1 ha1] at H2
                        have H2 := Lib.hid H2
                        clear HT ham
                        go_wp2_with fail
                        refine (H1.out _).mono ?_; rintro e s61 ⟨rfl, hb61⟩
                        have st61 := bl_step (bl_alloc (Below.refl _ _) _) hb61
                        have bl61 := bl_step bl60 st61
                        have Bb_61 : Blk s61 (wi.heap.size) 23 #[.int .i64 a, .int .i64 d] := (Blk.new _ _ _).below hb61
                        clear a_i_z a_i_c0 a_i_f0 a_i_c1 a_i_f1
                        have Ba_61 := (Ba_51.below be2).below st61
                        have a_61_z : wo.heap.size < s61.heap.size := Ba_61.lt
                        have a_61_c0 : s61.cell? ⟨wo.heap.size, 0, none⟩ = some (.int .i64 a) := (Ba_61.cell 0).trans rfl
                        have a_61_f0 := Ba_61.frozen 0
                        have a_61_c1 : s61.cell? ⟨wo.heap.size, 1, none⟩ = some (.int .i64 b) := (Ba_61.cell 1).trans rfl
                        have a_61_f1 := Ba_61.frozen 1
                        have b_61_z : wi.heap.size < s61.heap.size := Bb_61.lt
                        have b_61_c0 : s61.cell? ⟨wi.heap.size, 0, none⟩ = some (.int .i64 a) := (Bb_61.cell 0).trans rfl
                        have b_61_f0 := Bb_61.frozen 0
                        have b_61_c1 : s61.cell? ⟨wi.heap.size, 1, none⟩ = some (.int .i64 d) := (Bb_61.cell 1).trans rfl
                        have b_61_f1 := Bb_61.frozen 1
                        go_wp2_with fail
                        refine (HG1.out _).mono ?_; rintro e s62 ⟨rfl, hb62⟩
                        have st62 := bl_step (bl_alloc (Below.refl _ _) _) hb62
                        have bl62 := bl_step bl61 st62
                        have Br_62 : Blk s62 (s61.heap.size) 23 #[.int .i64 n, .int .i64 m] := (Blk.new _ _ _).below hb62
                        clear a_61_z a_61_c0 a_61_f0 a_61_c1 a_61_f1
                        have Ba_62 := Ba_61.below st62
                        clear b_61_z b_61_c0 b_61_f0 b_61_c1 b_61_f1
                        have Bb_62 := Bb_61.below st62
                        have a_62_z : wo.heap.size < s62.heap.size := Ba_62.lt
                        have a_62_c0 : s62.cell? ⟨wo.heap.size, 0, none⟩ = some (.int .i64 a) := (Ba_62.cell 0).trans rfl
                        have a_62_f0 := Ba_62.frozen 0
                        have a_62_c1 : s62.cell? ⟨wo.heap.size, 1, none⟩ = some (.int .i64 b) := (Ba_62.cell 1).trans rfl
                        have a_62_f1 := Ba_62.frozen 1
                        have b_62_z : wi.heap.size < s62.heap.size := Bb_62.lt
                        have b_62_c0 : s62.cell? ⟨wi.heap.size, 0, none⟩ = some (.int .i64 a) := (Bb_62.cell 0).trans rfl
                        have b_62_f0 := Bb_62.frozen 0
                        have b_62_c1 : s62.cell? ⟨wi.heap.size, 1, none⟩ = some (.int .i64 d) := (Bb_62.cell 1).trans rfl
                        have b_62_f1 := Bb_62.frozen 1
                        have r_62_z : s61.heap.size < s62.heap.size := Br_62.lt
                        have r_62_c0 : s62.cell? ⟨s61.heap.size, 0, none⟩ = some (.int .i64 n) := (Br_62.cell 0).trans rfl
                        have r_62_f0 := Br_62.frozen 0
                        have r_62_c1 : s62.cell? ⟨s61.heap.size, 1, none⟩ = some (.int .i64 m) := (Br_62.cell 1).trans rfl
                        have r_62_f1 := Br_62.frozen 1
                        go_wp2_with fail
                        refine (HG2.out _).mono ?_; rintro e s63 ⟨rfl, hb63⟩
                        have st63 := bl_step (Below.refl _ _) hb63
                        have bl63 := bl_step bl62 st63
                        clear a_62_z a_62_c0 a_62_f0 a_62_c1 a_62_f1
                        have Ba_63 := Ba_62.below st63
                        clear b_62_z b_62_c0 b_62_f0 b_62_c1 b_62_f1
                        have Bb_63 := Bb_62.below st63
                        clear r_62_z r_62_c0 r_62_f0 r_62_c1 r_62_f1
                        have Br_63 := Br_62.below st63
                        have a_63_z : wo.heap.size < s63.heap.size := Ba_63.lt
                        have a_63_c0 : s63.cell? ⟨wo.heap.size, 0, none⟩ = some (.int .i64 a) := (Ba_63.cell 0).trans rfl
                        have a_63_f0 := Ba_63.frozen 0
                        have a_63_c1 : s63.cell? ⟨wo.heap.size, 1, none⟩ = some (.int .i64 b) := (Ba_63.cell 1).trans rfl
                        have a_63_f1 := Ba_63.frozen 1
                        have b_63_z : wi.heap.size < s63.heap.size := Bb_63.lt
                        have b_63_c0 : s63.cell? ⟨wi.heap.size, 0, none⟩ = some (.int .i64 a) := (Bb_63.cell 0).trans rfl
                        have b_63_f0 := Bb_63.frozen 0
                        have b_63_c1 : s63.cell? ⟨wi.heap.size, 1, none⟩ = some (.int .i64 d) := (Bb_63.cell 1).trans rfl
                        have b_63_f1 := Bb_63.frozen 1
                        have r_63_z : s61.heap.size < s63.heap.size := Br_63.lt
                        have r_63_c0 : s63.cell? ⟨s61.heap.size, 0, none⟩ = some (.int .i64 n) := (Br_63.cell 0).trans rfl
                        have r_63_f0 := Br_63.frozen 0
                        have r_63_c1 : s63.cell? ⟨s61.heap.size, 1, none⟩ = some (.int .i64 m) := (Br_63.cell 1).trans rfl
                        have r_63_f1 := Br_63.frozen 1
                        go_wp2_with fail
                        refine (HC.out _).mono ?_; rintro e s64 ⟨rfl, hb64⟩
                        have st64 := bl_step (Below.refl _ _) hb64
                        have bl64 := bl_step bl63 st64
                        clear a_63_z a_63_c0 a_63_f0 a_63_c1 a_63_f1
                        have Ba_64 := Ba_63.below st64
                        clear b_63_z b_63_c0 b_63_f0 b_63_c1 b_63_f1
                        have Bb_64 := Bb_63.below st64
                        clear r_63_z r_63_c0 r_63_f0 r_63_c1 r_63_f1
                        have Br_64 := Br_63.below st64
                        have a_64_z : wo.heap.size < s64.heap.size := Ba_64.lt
                        have a_64_c0 : s64.cell? ⟨wo.heap.size, 0, none⟩ = some (.int .i64 a) := (Ba_64.cell 0).trans rfl
                        have a_64_f0 := Ba_64.frozen 0
                        have a_64_c1 : s64.cell? ⟨wo.heap.size, 1, none⟩ = some (.int .i64 b) := (Ba_64.cell 1).trans rfl
                        have a_64_f1 := Ba_64.frozen 1
                        have b_64_z : wi.heap.size < s64.heap.size := Bb_64.lt
                        have b_64_c0 : s64.cell? ⟨wi.heap.size, 0, none⟩ = some (.int .i64 a) := (Bb_64.cell 0).trans rfl
                        have b_64_f0 := Bb_64.frozen 0
                        have b_64_c1 : s64.cell? ⟨wi.heap.size, 1, none⟩ = some (.int .i64 d) := (Bb_64.cell 1).trans rfl
                        have b_64_f1 := Bb_64.frozen 1
                        have r_64_z : s61.heap.size < s64.heap.size := Br_64.lt
                        have r_64_c0 : s64.cell? ⟨s61.heap.size, 0, none⟩ = some (.int .i64 n) := (Br_64.cell 0).trans rfl
                        have r_64_f0 := Br_64.frozen 0
                        have r_64_c1 : s64.cell? ⟨s61.heap.size, 1, none⟩ = some (.int .i64 m) := (Br_64.cell 1).trans rfl
                        have r_64_f1 := Br_64.frozen 1
                        go_wp2_with fail
                        refine (HQ.out _).mono ?_; rintro e s65 ⟨rfl, hb65⟩
                        have st65 := bl_step (Below.refl _ _) hb65
                        have bl65 := bl_step bl64 st65
                        clear a_64_z a_64_c0 a_64_f0 a_64_c1 a_64_f1
                        have Ba_65 := Ba_64.below st65
                        clear b_64_z b_64_c0 b_64_f0 b_64_c1 b_64_f1
                        have Bb_65 := Bb_64.below st65
                        clear r_64_z r_64_c0 r_64_f0 r_64_c1 r_64_f1
                        have Br_65 := Br_64.below st65
                        have a_65_z : wo.heap.size < s65.heap.size := Ba_65.lt
                        have a_65_c0 : s65.cell? ⟨wo.heap.size, 0, none⟩ = some (.int .i64 a) := (Ba_65.cell 0).trans rfl
                        have a_65_f0 := Ba_65.frozen 0
                        have a_65_c1 : s65.cell? ⟨wo.heap.size, 1, none⟩ = some (.int .i64 b) := (Ba_65.cell 1).trans rfl
                        have a_65_f1 := Ba_65.frozen 1
                        have b_65_z : wi.heap.size < s65.heap.size := Bb_65.lt
                        have b_65_c0 : s65.cell? ⟨wi.heap.size, 0, none⟩ = some (.int .i64 a) := (Bb_65.cell 0).trans rfl
                        have b_65_f0 := Bb_65.frozen 0
                        have b_65_c1 : s65.cell? ⟨wi.heap.size, 1, none⟩ = some (.int .i64 d) := (Bb_65.cell 1).trans rfl
                        have b_65_f1 := Bb_65.frozen 1
                        have r_65_z : s61.heap.size < s65.heap.size := Br_65.lt
                        have r_65_c0 : s65.cell? ⟨s61.heap.size, 0, none⟩ = some (.int .i64 n) := (Br_65.cell 0).trans rfl
                        have r_65_f0 := Br_65.frozen 0
                        have r_65_c1 : s65.cell? ⟨s61.heap.size, 1, none⟩ = some (.int .i64 m) := (Br_65.cell 1).trans rfl
                        have r_65_f1 := Br_65.frozen 1
                        go_wp2_with fail
                        refine (HU.out _).mono ?_; rintro e s66 ⟨rfl, hb66⟩
                        have st66 := bl_step (Below.refl _ _) hb66
                        have bl66 := bl_step bl65 st66
                        clear a_65_z a_65_c0 a_65_f0 a_65_c1 a_65_f1
                        have Ba_66 := Ba_65.below st66
                        clear b_65_z b_65_c0 b_65_f0 b_65_c1 b_65_f1
                        have Bb_66 := Bb_65.below st66
                        clear r_65_z r_65_c0 r_65_f0 r_65_c1 r_65_f1
                        have Br_66 := Br_65.below st66
                        have a_66_z : wo.heap.size < s66.heap.size := Ba_66.lt
                        have a_66_c0 : s66.cell? ⟨wo.heap.size, 0, none⟩ = some (.int .i64 a) := (Ba_66.cell 0).trans rfl
                        have a_66_f0 := Ba_66.frozen 0
                        have a_66_c1 : s66.cell? ⟨wo.heap.size, 1, none⟩ = some (.int .i64 b) := (Ba_66.cell 1).trans rfl
                        have a_66_f1 := Ba_66.frozen 1
                        have b_66_z : wi.heap.size < s66.heap.size := Bb_66.lt
                        have b_66_c0 : s66.cell? ⟨wi.heap.size, 0, none⟩ = some (.int .i64 a) := (Bb_66.cell 0).trans rfl
                        have b_66_f0 := Bb_66.frozen 0
                        have b_66_c1 : s66.cell? ⟨wi.heap.size, 1, none⟩ = some (.int .i64 d) := (Bb_66.cell 1).trans rfl
                        have b_66_f1 := Bb_66.frozen 1
                        have r_66_z : s61.heap.size < s66.heap.size := Br_66.lt
                        have r_66_c0 : s66.cell? ⟨s61.heap.size, 0, none⟩ = some (.int .i64 n) := (Br_66.cell 0).trans rfl
                        have r_66_f0 := Br_66.frozen 0
                        have r_66_c1 : s66.cell? ⟨s61.heap.size, 1, none⟩ = some (.int .i64 m) := (Br_66.cell 1).trans rfl
                        have r_66_f1 := Br_66.frozen 1
                        go_wp2_with fail
                        refine (HV.out _).mono ?_; rintro e s67 ⟨rfl, hb67⟩
                        have st67 := bl_step (Below.refl _ _) hb67
                        have bl67 := bl_step bl66 st67
                        clear a_66_z a_66_c0 a_66_f0 a_66_c1 a_66_f1
                        have Ba_67 := Ba_66.below st67
                        clear b_66_z b_66_c0 b_66_f0 b_66_c1 b_66_f1
                        have Bb_67 := Bb_66.below st67
                        clear r_66_z r_66_c0 r_66_f0 r_66_c1 r_66_f1
                        have Br_67 := Br_66.below st67
                        have a_67_z : wo.heap.size < s67.heap.size := Ba_67.lt
                        have a_67_c0 : s67.cell? ⟨wo.heap.size, 0, none⟩ = some (.int .i64 a) := (Ba_67.cell 0).trans rfl
                        have a_67_f0 := Ba_67.frozen 0
                        have a_67_c1 : s67.cell? ⟨wo.heap.size, 1, none⟩ = some (.int .i64 b) := (Ba_67.cell 1).trans rfl
                        have a_67_f1 := Ba_67.frozen 1
                        have b_67_z : wi.heap.size < s67.heap.size := Bb_67.lt
                        have b_67_c0 : s67.cell? ⟨wi.heap.size, 0, none⟩ = some (.int .i64 a) := (Bb_67.cell 0).trans rfl
                        have b_67_f0 := Bb_67.frozen 0
                        have b_67_c1 : s67.cell? ⟨wi.heap.size, 1, none⟩ = some (.int .i64 d) := (Bb_67.cell 1).trans rfl
                        have b_67_f1 := Bb_67.frozen 1
                        have r_67_z : s61.heap.size < s67.heap.size := Br_67.lt
                        have r_67_c0 : s67.cell? ⟨s61.heap.size, 0, none⟩ = some (.int .i64 n) := (Br_67.cell 0).trans rfl
                        have r_67_f0 := Br_67.frozen 0
                        have r_67_c1 : s67.cell? ⟨s61.heap.size, 1, none⟩ = some (.int .i64 m) := (Br_67.cell 1).trans rfl
                        have r_67_f1 := Br_67.frozen 1
                        go_wp2_with fail
                        refine (H2.out _).mono ?_; rintro e s68 ⟨rfl, hb68⟩
                        have st68 := bl_step (Below.refl _ _) hb68
                        have bl68 := bl_step bl67 st68
                        clear a_67_z a_67_c0 a_67_f0 a_67_c1 a_67_f1
                        have Ba_68 := Ba_67.below st68
                        clear b_67_z b_67_c0 b_67_f0 b_67_c1 b_67_f1
                        have Bb_68 := Bb_67.below st68
                        clear r_67_z r_67_c0 r_67_f0 r_67_c1 r_67_f1
                        have Br_68 := Br_67.below st68
                        have a_68_z : wo.heap.size < s68.heap.size := Ba_68.lt
                        have a_68_c0 : s68.cell? ⟨wo.heap.size, 0, none⟩ = some (.int .i64 a) := (Ba_68.cell 0).trans rfl
                        have a_68_f0 := Ba_68.frozen 0
                        have a_68_c1 : s68.cell? ⟨wo.heap.size, 1, none⟩ = some (.int .i64 b) := (Ba_68.cell 1).trans rfl
                        have a_68_f1 := Ba_68.frozen 1
                        have b_68_z : wi.heap.size < s68.heap.size := Bb_68.lt
                        have b_68_c0 : s68.cell? ⟨wi.heap.size, 0, none⟩ = some (.int .i64 a) := (Bb_68.cell 0).trans rfl
                        have b_68_f0 := Bb_68.frozen 0
                        have b_68_c1 : s68.cell? ⟨wi.heap.size, 1, none⟩ = some (.int .i64 d) := (Bb_68.cell 1).trans rfl
                        have b_68_f1 := Bb_68.frozen 1
                        have r_68_z : s61.heap.size < s68.heap.size := Br_68.lt
                        have r_68_c0 : s68.cell? ⟨s61.heap.size, 0, none⟩ = some (.int .i64 n) := (Br_68.cell 0).trans rfl
                        have r_68_f0 := Br_68.frozen 0
                        have r_68_c1 : s68.cell? ⟨s61.heap.size, 1, none⟩ = some (.int .i64 m) := (Br_68.cell 1).trans rfl
                        have r_68_f1 := Br_68.frozen 1
                        go_wp2_with fail
                        go_roundw
                        case rel => exact ⟨j + 1, by go_num, by omega, bl_step be2 (bl_alloc bl68 _)⟩
                        case measure => simp only [intOf]; omega
                  · have hac2 : (a == c) = false := by simpa using hac
                    clear HS6 hac
                    by_cases ham : a = -9223372036854775808
                    · subst ham
                      have hcg : (-9223372036854775808 : Int) < c := by have h1 := IC.out.1; have h2 : ¬ (-9223372036854775808 : Int) = c := (by simpa using hac2); omega
                      clear HT k10
                      go_wp2_with fail
                      refine (H1.out _).mono ?_; rintro e s61 ⟨rfl, hb61⟩
                      have st61 := bl_step (bl_alloc (Below.refl _ _) _) hb61
                      have bl61 := bl_step bl60 st61
                      have Bb_61 : Blk s61 (wi.heap.size) 23 #[.int .i64 c, .int .i64 d] := (Blk.new _ _ _).below hb61
                      clear a_i_z a_i_c0 a_i_f0 a_i_c1 a_i_f1
                      have Ba_61 := (Ba_51.below be2).below st61
                      have a_61_z : wo.heap.size < s61.heap.size := Ba_61.lt
                      have a_61_c0 : s61.cell? ⟨wo.heap.size, 0, none⟩ = some (.int .i64 (-9223372036854775808)) := (Ba_61.cell 0).trans rfl
                      have a_61_f0 := Ba_61.frozen 0
                      have a_61_c1 : s61.cell? ⟨wo.heap.size, 1, none⟩ = some (.int .i64 b) := (Ba_61.cell 1).trans rfl
                      have a_61_f1 := Ba_61.frozen 1
                      have b_61_z : wi.heap.size < s61.heap.size := Bb_61.lt
                      have b_61_c0 : s61.cell? ⟨wi.heap.size, 0, none⟩ = some (.int .i64 c) := (Bb_61.cell 0).trans rfl
                      have b_61_f0 := Bb_61.frozen 0
                      have b_61_c1 : s61.cell? ⟨wi.heap.size, 1, none⟩ = some (.int .i64 d) := (Bb_61.cell 1).trans rfl
                      have b_61_f1 := Bb_61.frozen 1
                      go_wp2_with fail
                      refine (HG1.out _).mono ?_; rintro e s62 ⟨rfl, hb62⟩
                      have st62 := bl_step (bl_alloc (Below.refl _ _) _) hb62
                      have bl62 := bl_step bl61 st62
                      have Br_62 : Blk s62 (s61.heap.size) 23 #[.int .i64 n, .int .i64 m] := (Blk.new _ _ _).below hb62
                      clear a_61_z a_61_c0 a_61_f0 a_61_c1 a_61_f1
                      have Ba_62 := Ba_61.below st62
                      clear b_61_z b_61_c0 b_61_f0 b_61_c1 b_61_f1
                      have Bb_62 := Bb_61.below st62
                      have a_62_z : wo.heap.size < s62.heap.size := Ba_62.lt
                      have a_62_c0 : s62.cell? ⟨wo.heap.size, 0, none⟩ = some (.int .i64 (-9223372036854775808)) := (Ba_62.cell 0).trans rfl
                      have a_62_f0 := Ba_62.frozen 0
                      have a_62_c1 : s62.cell? ⟨wo.heap.size, 1, none⟩ = some (.int .i64 b) := (Ba_62.cell 1).trans rfl
                      have a_62_f1 := Ba_62.frozen 1
                      have b_62_z : wi.heap.size < s62.heap.size := Bb_62.lt
                      have b_62_c0 : s62.cell? ⟨wi.heap.size, 0, none⟩ = some (.int .i64 c) := (Bb_62.cell 0).trans rfl
                      have b_62_f0 := Bb_62.frozen 0
                      have b_62_c1 : s62.cell? ⟨wi.heap.size, 1, none⟩ = some (.int .i64 d) := (Bb_62.cell 1).trans rfl
                      have b_62_f1 := Bb_62.frozen 1
                      have r_62_z : s61.heap.size < s62.heap.size := Br_62.lt
                      have r_62_c0 : s62.cell? ⟨s61.heap.size, 0, none⟩ = some (.int .i64 n) := (Br_62.cell 0).trans rfl
                      have r_62_f0 := Br_62.frozen 0
                      have r_62_c1 : s62.cell? ⟨s61.heap.size, 1, none⟩ = some (.int .i64 m) := (Br_62.cell 1).trans rfl
                      have r_62_f1 := Br_62.frozen 1
                      go_wp2_with fail
                      refine (HG2.out _).mono ?_; rintro e s63 ⟨rfl, hb63⟩
                      have st63 := bl_step (Below.refl _ _) hb63
                      have bl63 := bl_step bl62 st63
                      clear a_62_z a_62_c0 a_62_f0 a_62_c1 a_62_f1
                      have Ba_63 := Ba_62.below st63
                      clear b_62_z b_62_c0 b_62_f0 b_62_c1 b_62_f1
                      have Bb_63 := Bb_62.below st63
                      clear r_62_z r_62_c0 r_62_f0 r_62_c1 r_62_f1
                      have Br_63 := Br_62.below st63
                      have a_63_z : wo.heap.size < s63.heap.size := Ba_63.lt
                      have a_63_c0 : s63.cell? ⟨wo.heap.size, 0, none⟩ = some (.int .i64 (-9223372036854775808)) := (Ba_63.cell 0).trans rfl
                      have a_63_f0 := Ba_63.frozen 0
                      have a_63_c1 : s63.cell? ⟨wo.heap.size, 1, none⟩ = some (.int .i64 b) := (Ba_63.cell 1).trans rfl
                      have a_63_f1 := Ba_63.frozen 1
                      have b_63_z : wi.heap.size < s63.heap.size := Bb_63.lt
                      have b_63_c0 : s63.cell? ⟨wi.heap.size, 0, none⟩ = some (.int .i64 c) := (Bb_63.cell 0).trans rfl
                      have b_63_f0 := Bb_63.frozen 0
                      have b_63_c1 : s63.cell? ⟨wi.heap.size, 1, none⟩ = some (.int .i64 d) := (Bb_63.cell 1).trans rfl
                      have b_63_f1 := Bb_63.frozen 1
                      have r_63_z : s61.heap.size < s63.heap.size := Br_63.lt
                      have r_63_c0 : s63.cell? ⟨s61.heap.size, 0, none⟩ = some (.int .i64 n) := (Br_63.cell 0).trans rfl
                      have r_63_f0 := Br_63.frozen 0
                      have r_63_c1 : s63.cell? ⟨s61.heap.size, 1, none⟩ = some (.int .i64 m) := (Br_63.cell 1).trans rfl
                      have r_63_f1 := Br_63.frozen 1
                      go_wp2_with fail
                      refine (HC.out _).mono ?_; rintro e s64 ⟨rfl, hb64⟩
                      have st64 := bl_step (Below.refl _ _) hb64
                      have bl64 := bl_step bl63 st64
                      clear a_63_z a_63_c0 a_63_f0 a_63_c1 a_63_f1
                      have Ba_64 := Ba_63.below st64
                      clear b_63_z b_63_c0 b_63_f0 b_63_c1 b_63_f1
                      have Bb_64 := Bb_63.below st64
                      clear r_63_z r_63_c0 r_63_f0 r_63_c1 r_63_f1
                      have Br_64 := Br_63.below st64
                      have a_64_z : wo.heap.size < s64.heap.size := Ba_64.lt
                      have a_64_c0 : s64.cell? ⟨wo.heap.size, 0, none⟩ = some (.int .i64 (-9223372036854775808)) := (Ba_64.cell 0).trans rfl
                      have a_64_f0 := Ba_64.frozen 0
                      have a_64_c1 : s64.cell? ⟨wo.heap.size, 1, none⟩ = some (.int .i64 b) := (Ba_64.cell 1).trans rfl
                      have a_64_f1 := Ba_64.frozen 1
                      have b_64_z : wi.heap.size < s64.heap.size := Bb_64.lt
                      have b_64_c0 : s64.cell? ⟨wi.heap.size, 0, none⟩ = some (.int .i64 c) := (Bb_64.cell 0).trans rfl
                      have b_64_f0 := Bb_64.frozen 0
                      have b_64_c1 : s64.cell? ⟨wi.heap.size, 1, none⟩ = some (.int .i64 d) := (Bb_64.cell 1).trans rfl
                      have b_64_f1 := Bb_64.frozen 1
                      have r_64_z : s61.heap.size < s64.heap.size := Br_64.lt
                      have r_64_c0 : s64.cell? ⟨s61.heap.size, 0, none⟩ = some (.int .i64 n) := (Br_64.cell 0).trans rfl
                      have r_64_f0 := Br_64.frozen 0
                      have r_64_c1 : s64.cell? ⟨s61.heap.size, 1, none⟩ = some (.int .i64 m) := (Br_64.cell 1).trans rfl
                      have r_64_f1 := Br_64.frozen 1
                      go_wp2_with fail
                      refine (HQ.out _).mono ?_; rintro e s65 ⟨rfl, hb65⟩
                      have st65 := bl_step (Below.refl _ _) hb65
                      have bl65 := bl_step bl64 st65
                      clear a_64_z a_64_c0 a_64_f0 a_64_c1 a_64_f1
                      have Ba_65 := Ba_64.below st65
                      clear b_64_z b_64_c0 b_64_f0 b_64_c1 b_64_f1
                      have Bb_65 := Bb_64.below st65
                      clear r_64_z r_64_c0 r_64_f0 r_64_c1 r_64_f1
                      have Br_65 := Br_64.below st65
                      have a_65_z : wo.heap.size < s65.heap.size := Ba_65.lt
                      have a_65_c0 : s65.cell? ⟨wo.heap.size, 0, none⟩ = some (.int .i64 (-9223372036854775808)) := (Ba_65.cell 0).trans rfl
                      have a_65_f0 := Ba_65.frozen 0
                      have a_65_c1 : s65.cell? ⟨wo.heap.size, 1, none⟩ = some (.int .i64 b) := (Ba_65.cell 1).trans rfl
                      have a_65_f1 := Ba_65.frozen 1
                      have b_65_z : wi.heap.size < s65.heap.size := Bb_65.lt
                      have b_65_c0 : s65.cell? ⟨wi.heap.size, 0, none⟩ = some (.int .i64 c) := (Bb_65.cell 0).trans rfl
                      have b_65_f0 := Bb_65.frozen 0
                      have b_65_c1 : s65.cell? ⟨wi.heap.size, 1, none⟩ = some (.int .i64 d) := (Bb_65.cell 1).trans rfl
                      have b_65_f1 := Bb_65.frozen 1
                      have r_65_z : s61.heap.size < s65.heap.size := Br_65.lt
                      have r_65_c0 : s65.cell? ⟨s61.heap.size, 0, none⟩ = some (.int .i64 n) := (Br_65.cell 0).trans rfl
                      have r_65_f0 := Br_65.frozen 0
                      have r_65_c1 : s65.cell? ⟨s61.heap.size, 1, none⟩ = some (.int .i64 m) := (Br_65.cell 1).trans rfl
                      have r_65_f1 := Br_65.frozen 1
                      go_wp2_with fail
                      refine (HU.out _).mono ?_; rintro e s66 ⟨rfl, hb66⟩
                      have st66 := bl_step (Below.refl _ _) hb66
                      have bl66 := bl_step bl65 st66
                      clear a_65_z a_65_c0 a_65_f0 a_65_c1 a_65_f1
                      have Ba_66 := Ba_65.below st66
                      clear b_65_z b_65_c0 b_65_f0 b_65_c1 b_65_f1
                      have Bb_66 := Bb_65.below st66
                      clear r_65_z r_65_c0 r_65_f0 r_65_c1 r_65_f1
                      have Br_66 := Br_65.below st66
                      have a_66_z : wo.heap.size < s66.heap.size := Ba_66.lt
                      have a_66_c0 : s66.cell? ⟨wo.heap.size, 0, none⟩ = some (.int .i64 (-9223372036854775808)) := (Ba_66.cell 0).trans rfl
                      have a_66_f0 := Ba_66.frozen 0
                      have a_66_c1 : s66.cell? ⟨wo.heap.size, 1, none⟩ = some (.int .i64 b) := (Ba_66.cell 1).trans rfl
                      have a_66_f1 := Ba_66.frozen 1
                      have b_66_z : wi.heap.size < s66.heap.size := Bb_66.lt
                      have b_66_c0 : s66.cell? ⟨wi.heap.size, 0, none⟩ = some (.int .i64 c) := (Bb_66.cell 0).trans rfl
                      have b_66_f0 := Bb_66.frozen 0
                      have b_66_c1 : s66.cell? ⟨wi.heap.size, 1, none⟩ = some (.int .i64 d) := (Bb_66.cell 1).trans rfl
                      have b_66_f1 := Bb_66.frozen 1
                      have r_66_z : s61.heap.size < s66.heap.size := Br_66.lt
                      have r_66_c0 : s66.cell? ⟨s61.heap.size, 0, none⟩ = some (.int .i64 n) := (Br_66.cell 0).trans rfl
                      have r_66_f0 := Br_66.frozen 0
                      have r_66_c1 : s66.cell? ⟨s61.heap.size, 1, none⟩ = some (.int .i64 m) := (Br_66.cell 1).trans rfl
                      have r_66_f1 := Br_66.frozen 1
                      go_wp2_with fail
                      refine (HV.out _).mono ?_; rintro e s67 ⟨rfl, hb67⟩
                      have st67 := bl_step (Below.refl _ _) hb67
                      have bl67 := bl_step bl66 st67
                      clear a_66_z a_66_c0 a_66_f0 a_66_c1 a_66_f1
                      have Ba_67 := Ba_66.below st67
                      clear b_66_z b_66_c0 b_66_f0 b_66_c1 b_66_f1
                      have Bb_67 := Bb_66.below st67
                      clear r_66_z r_66_c0 r_66_f0 r_66_c1 r_66_f1
                      have Br_67 := Br_66.below st67
                      have a_67_z : wo.heap.size < s67.heap.size := Ba_67.lt
                      have a_67_c0 : s67.cell? ⟨wo.heap.size, 0, none⟩ = some (.int .i64 (-9223372036854775808)) := (Ba_67.cell 0).trans rfl
                      have a_67_f0 := Ba_67.frozen 0
                      have a_67_c1 : s67.cell? ⟨wo.heap.size, 1, none⟩ = some (.int .i64 b) := (Ba_67.cell 1).trans rfl
                      have a_67_f1 := Ba_67.frozen 1
                      have b_67_z : wi.heap.size < s67.heap.size := Bb_67.lt
                      have b_67_c0 : s67.cell? ⟨wi.heap.size, 0, none⟩ = some (.int .i64 c) := (Bb_67.cell 0).trans rfl
                      have b_67_f0 := Bb_67.frozen 0
                      have b_67_c1 : s67.cell? ⟨wi.heap.size, 1, none⟩ = some (.int .i64 d) := (Bb_67.cell 1).trans rfl
                      have b_67_f1 := Bb_67.frozen 1
                      have r_67_z : s61.heap.size < s67.heap.size := Br_67.lt
                      have r_67_c0 : s67.cell? ⟨s61.heap.size, 0, none⟩ = some (.int .i64 n) := (Br_67.cell 0).trans rfl
                      have r_67_f0 := Br_67.frozen 0
                      have r_67_c1 : s67.cell? ⟨s61.heap.size, 1, none⟩ = some (.int .i64 m) := (Br_67.cell 1).trans rfl
                      have r_67_f1 := Br_67.frozen 1
                      go_wp2_with fail
                      go_roundw
                      case rel => exact ⟨j + 1, by go_num, by omega, bl_step be2 bl67⟩
                      case measure => simp only [intOf]; omega
                    · by_cases hcm : c = -9223372036854775808
                      · subst hcm
                        have ha1 : -9223372036854775808 < a := by have := IA.out.1; omega
                        clear HT k10 ham
                        go_wp2_with fail
                        refine (H1.out _).mono ?_; rintro e s61 ⟨rfl, hb61⟩
                        have st61 := bl_step (bl_alloc (Below.refl _ _) _) hb61
                        have bl61 := bl_step bl60 st61
                        have Bb_61 : Blk s61 (wi.heap.size) 23 #[.int .i64 (-9223372036854775808), .int .i64 d] := (Blk.new _ _ _).below hb61
                        clear a_i_z a_i_c0 a_i_f0 a_i_c1 a_i_f1
                        have Ba_61 := (Ba_51.below be2).below st61
                        have a_61_z : wo.heap.size < s61.heap.size := Ba_61.lt
                        have a_61_c0 : s61.cell? ⟨wo.heap.size, 0, none⟩ = some (.int .i64 a) := (Ba_61.cell 0).trans rfl
                        have a_61_f0 := Ba_61.frozen 0
                        have a_61_c1 : s61.cell? ⟨wo.heap.size, 1, none⟩ = some (.int .i64 b) := (Ba_61.cell 1).trans rfl
                        have a_61_f1 := Ba_61.frozen 1
                        have b_61_z : wi.heap.size < s61.heap.size := Bb_61.lt
                        have b_61_c0 : s61.cell? ⟨wi.heap.size, 0, none⟩ = some (.int .i64 (-9223372036854775808)) := (Bb_61.cell 0).trans rfl
                        have b_61_f0 := Bb_61.frozen 0
                        have b_61_c1 : s61.cell? ⟨wi.heap.size, 1, none⟩ = some (.int .i64 d) := (Bb_61.cell 1).trans rfl
                        have b_61_f1 := Bb_61.frozen 1
                        go_wp2_with fail
                        refine (HG1.out _).mono ?_; rintro e s62 ⟨rfl, hb62⟩
                        have st62 := bl_step (bl_alloc (Below.refl _ _) _) hb62
                        have bl62 := bl_step bl61 st62
                        have Br_62 : Blk s62 (s61.heap.size) 23 #[.int .i64 n, .int .i64 m] := (Blk.new _ _ _).below hb62
                        clear a_61_z a_61_c0 a_61_f0 a_61_c1 a_61_f1
                        have Ba_62 := Ba_61.below st62
                        clear b_61_z b_61_c0 b_61_f0 b_61_c1 b_61_f1
                        have Bb_62 := Bb_61.below st62
                        have a_62_z : wo.heap.size < s62.heap.size := Ba_62.lt
                        have a_62_c0 : s62.cell? ⟨wo.heap.size, 0, none⟩ = some (.int .i64 a) := (Ba_62.cell 0).trans rfl
                        have a_62_f0 := Ba_62.frozen 0
                        have a_62_c1 : s62.cell? ⟨wo.heap.size, 1, none⟩ = some (.int .i64 b) := (Ba_62.cell 1).trans rfl
                        have a_62_f1 := Ba_62.frozen 1
                        have b_62_z : wi.heap.size < s62.heap.size := Bb_62.lt
                        have b_62_c0 : s62.cell? ⟨wi.heap.size, 0, none⟩ = some (.int .i64 (-9223372036854775808)) := (Bb_62.cell 0).trans rfl
                        have b_62_f0 := Bb_62.frozen 0
                        have b_62_c1 : s62.cell? ⟨wi.heap.size, 1, none⟩ = some (.int .i64 d) := (Bb_62.cell 1).trans rfl
                        have b_62_f1 := Bb_62.frozen 1
                        have r_62_z : s61.heap.size < s62.heap.size := Br_62.lt
                        have r_62_c0 : s62.cell? ⟨s61.heap.size, 0, none⟩ = some (.int .i64 n) := (Br_62.cell 0).trans rfl
                        have r_62_f0 := Br_62.frozen 0
                        have r_62_c1 : s62.cell? ⟨s61.heap.size, 1, none⟩ = some (.int .i64 m) := (Br_62.cell 1).trans rfl
                        have r_62_f1 := Br_62.frozen 1
                        go_wp2_with fail
                        refine (HG2.out _).mono ?_; rintro e s63 ⟨rfl, hb63⟩
                        have st63 := bl_step (Below.refl _ _) hb63
                        have bl63 := bl_step bl62 st63
                        clear a_62_z a_62_c0 a_62_f0 a_62_c1 a_62_f1
                        have Ba_63 := Ba_62.below st63
                        clear b_62_z b_62_c0 b_62_f0 b_62_c1 b_62_f1
                        have Bb_63 := Bb_62.below st63
                        clear r_62_z r_62_c0 r_62_f0 r_62_c1 r_62_f1
                        have Br_63 := Br_62.below st63
                        have a_63_z : wo.heap.size < s63.heap.size := Ba_63.lt
                        have a_63_c0 : s63.cell? ⟨wo.heap.size, 0, none⟩ = some (.int .i64 a) := (Ba_63.cell 0).trans rfl
                        have a_63_f0 := Ba_63.frozen 0
                        have a_63_c1 : s63.cell? ⟨wo.heap.size, 1, none⟩ = some (.int .i64 b) := (Ba_63.cell 1).trans rfl
                        have a_63_f1 := Ba_63.frozen 1
                        have b_63_z : wi.heap.size < s63.heap.size := Bb_63.lt
                        have b_63_c0 : s63.cell? ⟨wi.heap.size, 0, none⟩ = some (.int .i64 (-9223372036854775808)) := (Bb_63.cell 0).trans rfl
                        have b_63_f0 := Bb_63.frozen 0
                        have b_63_c1 : s63.cell? ⟨wi.heap.size, 1, none⟩ = some (.int .i64 d) := (Bb_63.cell 1).trans rfl
                        have b_63_f1 := Bb_63.frozen 1
                        have r_63_z : s61.heap.size < s63.heap.size := Br_63.lt
                        have r_63_c0 : s63.cell? ⟨s61.heap.size, 0, none⟩ = some (.int .i64 n) := (Br_63.cell 0).trans rfl
                        have r_63_f0 := Br_63.frozen 0
                        have r_63_c1 : s63.cell? ⟨s61.heap.size, 1, none⟩ = some (.int .i64 m) := (Br_63.cell 1).trans rfl
                        have r_63_f1 := Br_63.frozen 1
                        go_wp2_with fail
                        refine (HC.out _).mono ?_; rintro e s64 ⟨rfl, hb64⟩
                        have st64 := bl_step (Below.refl _ _) hb64
                        have bl64 := bl_step bl63 st64
                        clear a_63_z a_63_c0 a_63_f0 a_63_c1 a_63_f1
                        have Ba_64 := Ba_63.below st64
                        clear b_63_z b_63_c0 b_63_f0 b_63_c1 b_63_f1
                        have Bb_64 := Bb_63.below st64
                        clear r_63_z r_63_c0 r_63_f0 r_63_c1 r_63_f1
                        have Br_64 := Br_63.below st64
                        have a_64_z : wo.heap.size < s64.heap.size := Ba_64.lt
                        have a_64_c0 : s64.cell? ⟨wo.heap.size, 0, none⟩ = some (.int .i64 a) := (Ba_64.cell 0).trans rfl
                        have a_64_f0 := Ba_64.frozen 0
                        have a_64_c1 : s64.cell? ⟨wo.heap.size, 1, none⟩ = some (.int .i64 b) := (Ba_64.cell 1).trans rfl
                        have a_64_f1 := Ba_64.frozen 1
                        have b_64_z : wi.heap.size < s64.heap.size := Bb_64.lt
                        have b_64_c0 : s64.cell? ⟨wi.heap.size, 0, none⟩ = some (.int .i64 (-9223372036854775808)) := (Bb_64.cell 0).trans rfl
                        have b_64_f0 := Bb_64.frozen 0
                        have b_64_c1 : s64.cell? ⟨wi.heap.size, 1, none⟩ = some (.int .i64 d) := (Bb_64.cell 1).trans rfl
                        have b_64_f1 := Bb_64.frozen 1
                        have r_64_z : s61.heap.size < s64.heap.size := Br_64.lt
                        have r_64_c0 : s64.cell? ⟨s61.heap.size, 0, none⟩ = some (.int .i64 n) := (Br_64.cell 0).trans rfl
                        have r_64_f0 := Br_64.frozen 0
                        have r_64_c1 : s64.cell? ⟨s61.heap.size, 1, none⟩ = some (.int .i64 m) := (Br_64.cell 1).trans rfl
                        have r_64_f1 := Br_64.frozen 1
                        go_wp2_with fail
                        refine (HQ.out _).mono ?_; rintro e s65 ⟨rfl, hb65⟩
                        have st65 := bl_step (Below.refl _ _) hb65
                        have bl65 := bl_step bl64 st65
                        clear a_64_z a_64_c0 a_64_f0 a_64_c1 a_64_f1
                        have Ba_65 := Ba_64.below st65
                        clear b_64_z b_64_c0 b_64_f0 b_64_c1 b_64_f1
                        have Bb_65 := Bb_64.below st65
                        clear r_64_z r_64_c0 r_64_f0 r_64_c1 r_64_f1
                        have Br_65 := Br_64.below st65
                        have a_65_z : wo.heap.size < s65.heap.size := Ba_65.lt
                        have a_65_c0 : s65.cell? ⟨wo.heap.size, 0, none⟩ = some (.int .i64 a) := (Ba_65.cell 0).trans rfl
                        have a_65_f0 := Ba_65.frozen 0
                        have a_65_c1 : s65.cell? ⟨wo.heap.size, 1, none⟩ = some (.int .i64 b) := (Ba_65.cell 1).trans rfl
                        have a_65_f1 := Ba_65.frozen 1
                        have b_65_z : wi.heap.size < s65.heap.size := Bb_65.lt
                        have b_65_c0 : s65.cell? ⟨wi.heap.size, 0, none⟩ = some (.int .i64 (-9223372036854775808)) := (Bb_65.cell 0).trans rfl
                        have b_65_f0 := Bb_65.frozen 0
                        have b_65_c1 : s65.cell? ⟨wi.heap.size, 1, none⟩ = some (.int .i64 d) := (Bb_65.cell 1).trans rfl
                        have b_65_f1 := Bb_65.frozen 1
                        have r_65_z : s61.heap.size < s65.heap.size := Br_65.lt
                        have r_65_c0 : s65.cell? ⟨s61.heap.size, 0, none⟩ = some (.int .i64 n) := (Br_65.cell 0).trans rfl
                        have r_65_f0 := Br_65.frozen 0
                        have r_65_c1 : s65.cell? ⟨s61.heap.size, 1, none⟩ = some (.int .i64 m) := (Br_65.cell 1).trans rfl
                        have r_65_f1 := Br_65.frozen 1
                        go_wp2_with fail
                        refine (HU.out _).mono ?_; rintro e s66 ⟨rfl, hb66⟩
                        have st66 := bl_step (Below.refl _ _) hb66
                        have bl66 := bl_step bl65 st66
                        clear a_65_z a_65_c0 a_65_f0 a_65_c1 a_65_f1
                        have Ba_66 := Ba_65.below st66
                        clear b_65_z b_65_c0 b_65_f0 b_65_c1 b_65_f1
                        have Bb_66 := Bb_65.below st66
                        clear r_65_z r_65_c0 r_65_f0 r_65_c1 r_65_f1
                        have Br_66 := Br_65.below st66
                        have a_66_z : wo.heap.size < s66.heap.size := Ba_66.lt
                        have a_66_c0 : s66.cell? ⟨wo.heap.size, 0, none⟩ = some (.int .i64 a) := (Ba_66.cell 0).trans rfl
                        have a_66_f0 := Ba_66.frozen 0
                        have a_66_c1 : s66.cell? ⟨wo.heap.size, 1, none⟩ = some (.int .i64 b) := (Ba_66.cell 1).trans rfl
                        have a_66_f1 := Ba_66.frozen 1
                        have b_66_z : wi.heap.size < s66.heap.size := Bb_66.lt
                        have b_66_c0 : s66.cell? ⟨wi.heap.size, 0, none⟩ = some (.int .i64 (-9223372036854775808)) := (Bb_66.cell 0).trans rfl
                        have b_66_f0 := Bb_66.frozen 0
                        have b_66_c1 : s66.cell? ⟨wi.heap.size, 1, none⟩ = some (.int .i64 d) := (Bb_66.cell 1).trans rfl
                        have b_66_f1 := Bb_66.frozen 1
                        have r_66_z : s61.heap.size < s66.heap.size := Br_66.lt
                        have r_66_c0 : s66.cell? ⟨s61.heap.size, 0, none⟩ = some (.int .i64 n) := (Br_66.cell 0).trans rfl
                        have r_66_f0 := Br_66.frozen 0
                        have r_66_c1 : s66.cell? ⟨s61.heap.size, 1, none⟩ = some (.int .i64 m) := (Br_66.cell 1).trans rfl
                        have r_66_f1 := Br_66.frozen 1
                        go_wp2_with fail
                        refine (HV.out _).mono ?_; rintro e s67 ⟨rfl, hb67⟩
                        have st67 := bl_step (Below.refl _ _) hb67
                        have bl67 := bl_step bl66 st67
                        clear a_66_z a_66_c0 a_66_f0 a_66_c1 a_66_f1
                        have Ba_67 := Ba_66.below st67
                        clear b_66_z b_66_c0 b_66_f0 b_66_c1 b_66_f1
                        have Bb_67 := Bb_66.below st67
                        clear r_66_z r_66_c0 r_66_f0 r_66_c1 r_66_f1
                        have Br_67 := Br_66.below st67
                        have a_67_z : wo.heap.size < s67.heap.size := Ba_67.lt
                        have a_67_c0 : s67.cell? ⟨wo.heap.size, 0, none⟩ = some (.int .i64 a) := (Ba_67.cell 0).trans rfl
                        have a_67_f0 := Ba_67.frozen 0
                        have a_67_c1 : s67.cell? ⟨wo.heap.size, 1, none⟩ = some (.int .i64 b) := (Ba_67.cell 1).trans rfl
                        have a_67_f1 := Ba_67.frozen 1
                        have b_67_z : wi.heap.size < s67.heap.size := Bb_67.lt
                        have b_67_c0 : s67.cell? ⟨wi.heap.size, 0, none⟩ = some (.int .i64 (-9223372036854775808)) := (Bb_67.cell 0).trans rfl
                        have b_67_f0 := Bb_67.frozen 0
                        have b_67_c1 : s67.cell? ⟨wi.heap.size, 1, none⟩ = some (.int .i64 d) := (Bb_67.cell 1).trans rfl
                        have b_67_f1 := Bb_67.frozen 1
                        have r_67_z : s61.heap.size < s67.heap.size := Br_67.lt
                        have r_67_c0 : s67.cell? ⟨s61.heap.size, 0, none⟩ = some (.int .i64 n) := (Br_67.cell 0).trans rfl
                        have r_67_f0 := Br_67.frozen 0
                        have r_67_c1 : s67.cell? ⟨s61.heap.size, 1, none⟩ = some (.int .i64 m) := (Br_67.cell 1).trans rfl
                        have r_67_f1 := Br_67.frozen 1
                        go_wp2_with fail
                        go_roundw
                        case rel => exact ⟨j + 1, by go_num, by omega, bl_step be2 bl67⟩
                        case measure => simp only [intOf]; omega
                      · have ha1 : -9223372036854775808 < a := by have := IA.out.1; omega
                        have ha2 := IA.out.2
                        have hc1 : -9223372036854775808 < c := by have := IC.out.1; omega
                        have hc2 := IC.out.2
                        have hn2 := IN.out.2
                        have H2 := fun w => simplest_any (-c) d (-a) b w ⟨by omega, by omega⟩ ID.out ⟨by omega, by omega⟩ IB.out
                        rw [HT.out ha1 hc1] at H2
                        have H2 := Lib.hid H2
                        clear HT ham hcm
                        go_wp2_with fail
                        refine (H1.out _).mono ?_; rintro e s61 ⟨rfl, hb61⟩
                        have st61 := bl_step (bl_alloc (Below.refl _ _) _) hb61
                        have bl61 := bl_step bl60 st61
                        have Bb_61 : Blk s61 (wi.heap.size) 23 #[.int .i64 c, .int .i64 d] := (Blk.new _ _ _).below hb61
                        clear a_i_z a_i_c0 a_i_f0 a_i_c1 a_i_f1
                        have Ba_61 := (Ba_51.below be2).below st61
                        have a_61_z : wo.heap.size < s61.heap.size := Ba_61.lt
                        have a_61_c0 : s61.cell? ⟨wo.heap.size, 0, none⟩ = some (.int .i64 a) := (Ba_61.cell 0).trans rfl
                        have a_61_f0 := Ba_61.frozen 0
                        have a_61_c1 : s61.cell? ⟨wo.heap.size, 1, none⟩ = some (.int .i64 b) := (Ba_61.cell 1).trans rfl
                        have a_61_f1 := Ba_61.frozen 1
                        have b_61_z : wi.heap.size < s61.heap.size := Bb_61.lt
                        have b_61_c0 : s61.cell? ⟨wi.heap.size, 0, none⟩ = some (.int .i64 c) := (Bb_61.cell 0).trans rfl
                        have b_61_f0 := Bb_61.frozen 0
                        have b_61_c1 : s61.cell? ⟨wi.heap.size, 1, none⟩ = some (.int .i64 d) := (Bb_61.cell 1).trans rfl
                        have b_61_f1 := Bb_61.frozen 1
                        go_wp2_with fail
                        refine (HG1.out _).mono ?_; rintro e s62 ⟨rfl, hb62⟩
                        have st62 := bl_step (bl_alloc (Below.refl _ _) _) hb62
                        have bl62 := bl_step bl61 st62
                        have Br_62 : Blk s62 (s61.heap.size) 23 #[.int .i64 n, .int .i64 m] := (Blk.new _ _ _).below hb62
                        clear a_61_z a_61_c0 a_61_f0 a_61_c1 a_61_f1
                        have Ba_62 := Ba_61.below st62
                        clear b_61_z b_61_c0 b_61_f0 b_61_c1 b_61_f1
                        have Bb_62 := Bb_61.below st62
                        have a_62_z : wo.heap.size < s62.heap.size := Ba_62.lt
                        have a_62_c0 : s62.cell? ⟨wo.heap.size, 0, none⟩ = some (.int .i64 a) := (Ba_62.cell 0).trans rfl
                        have a_62_f0 := Ba_62.frozen 0
                        have a_62_c1 : s62.cell? ⟨wo.heap.size, 1, none⟩ = some (.int .i64 b) := (Ba_62.cell 1).trans rfl
                        have a_62_f1 := Ba_62.frozen 1
                        have b_62_z : wi.heap.size < s62.heap.size := Bb_62.lt
                        have b_62_c0 : s62.cell? ⟨wi.heap.size, 0, none⟩ = some (.int .i64 c) := (Bb_62.cell 0).trans rfl
                        have b_62_f0 := Bb_62.frozen 0
                        have b_62_c1 : s62.cell? ⟨wi.heap.size, 1, none⟩ = some (.int .i64 d) := (Bb_62.cell 1).trans rfl
                        have b_62_f1 := Bb_62.frozen 1
                        have r_62_z : s61.heap.size < s62.heap.size := Br_62.lt
                        have r_62_c0 : s62.cell? ⟨s61.heap.size, 0, none⟩ = some (.int .i64 n) := (Br_62.cell 0).trans rfl
                        have r_62_f0 := Br_62.frozen 0
                        have r_62_c1 : s62.cell? ⟨s61.heap.size, 1, none⟩ = some (.int .i64 m) := (Br_62.cell 1).trans rfl
                        have r_62_f1 := Br_62.frozen 1
                        go_wp2_with fail
                        refine (HG2.out _).mono ?_; rintro e s63 ⟨rfl, hb63⟩
                        have st63 := bl_step (Below.refl _ _) hb63
                        have bl63 := bl_step bl62 st63
                        clear a_62_z a_62_c0 a_62_f0 a_62_c1 a_62_f1
                        have Ba_63 := Ba_62.below st63
                        clear b_62_z b_62_c0 b_62_f0 b_62_c1 b_62_f1
                        have Bb_63 := Bb_62.below st63
                        clear r_62_z r_62_c0 r_62_f0 r_62_c1 r_62_f1
                        have Br_63 := Br_62.below st63
                        have a_63_z : wo.heap.size < s63.heap.size := Ba_63.lt
                        have a_63_c0 : s63.cell? ⟨wo.heap.size, 0, none⟩ = some (.int .i64 a) := (Ba_63.cell 0).trans rfl
                        have a_63_f0 := Ba_63.frozen 0
                        have a_63_c1 : s63.cell? ⟨wo.heap.size, 1, none⟩ = some (.int .i64 b) := (Ba_63.cell 1).trans rfl
                        have a_63_f1 := Ba_63.frozen 1
                        have b_63_z : wi.heap.size < s63.heap.size := Bb_63.lt
                        have b_63_c0 : s63.cell? ⟨wi.heap.size, 0, none⟩ = some (.int .i64 c) := (Bb_63.cell 0).trans rfl
                        have b_63_f0 := Bb_63.frozen 0
                        have b_63_c1 : s63.cell? ⟨wi.heap.size, 1, none⟩ = some (.int .i64 d) := (Bb_63.cell 1).trans rfl
                        have b_63_f1 := Bb_63.frozen 1
                        have r_63_z : s61.heap.size < s63.heap.size := Br_63.lt
                        have r_63_c0 : s63.cell? ⟨s61.heap.size, 0, none⟩ = some (.int .i64 n) := (Br_63.cell 0).trans rfl
                        have r_63_f0 := Br_63.frozen 0
                        have r_63_c1 : s63.cell? ⟨s61.heap.size, 1, none⟩ = some (.int .i64 m) := (Br_63.cell 1).trans rfl
                        have r_63_f1 := Br_63.frozen 1
                        go_wp2_with fail
                        refine (HC.out _).mono ?_; rintro e s64 ⟨rfl, hb64⟩
                        have st64 := bl_step (Below.refl _ _) hb64
                        have bl64 := bl_step bl63 st64
                        clear a_63_z a_63_c0 a_63_f0 a_63_c1 a_63_f1
                        have Ba_64 := Ba_63.below st64
                        clear b_63_z b_63_c0 b_63_f0 b_63_c1 b_63_f1
                        have Bb_64 := Bb_63.below st64
                        clear r_63_z r_63_c0 r_63_f0 r_63_c1 r_63_f1
                        have Br_64 := Br_63.below st64
                        have a_64_z : wo.heap.size < s64.heap.size := Ba_64.lt
                        have a_64_c0 : s64.cell? ⟨wo.heap.size, 0, none⟩ = some (.int .i64 a) := (Ba_64.cell 0).trans rfl
                        have a_64_f0 := Ba_64.frozen 0
                        have a_64_c1 : s64.cell? ⟨wo.heap.size, 1, none⟩ = some (.int .i64 b) := (Ba_64.cell 1).trans rfl
                        have a_64_f1 := Ba_64.frozen 1
                        have b_64_z : wi.heap.size < s64.heap.size := Bb_64.lt
                        have b_64_c0 : s64.cell? ⟨wi.heap.size, 0, none⟩ = some (.int .i64 c) := (Bb_64.cell 0).trans rfl
                        have b_64_f0 := Bb_64.frozen 0
                        have b_64_c1 : s64.cell? ⟨wi.heap.size, 1, none⟩ = some (.int .i64 d) := (Bb_64.cell 1).trans rfl
                        have b_64_f1 := Bb_64.frozen 1
                        have r_64_z : s61.heap.size < s64.heap.size := Br_64.lt
                        have r_64_c0 : s64.cell? ⟨s61.heap.size, 0, none⟩ = some (.int .i64 n) := (Br_64.cell 0).trans rfl
                        have r_64_f0 := Br_64.frozen 0
                        have r_64_c1 : s64.cell? ⟨s61.heap.size, 1, none⟩ = some (.int .i64 m) := (Br_64.cell 1).trans rfl
                        have r_64_f1 := Br_64.frozen 1
                        go_wp2_with fail
                        refine (HQ.out _).mono ?_; rintro e s65 ⟨rfl, hb65⟩
                        have st65 := bl_step (Below.refl _ _) hb65
                        have bl65 := bl_step bl64 st65
                        clear a_64_z a_64_c0 a_64_f0 a_64_c1 a_64_f1
                        have Ba_65 := Ba_64.below st65
                        clear b_64_z b_64_c0 b_64_f0 b_64_c1 b_64_f1
                        have Bb_65 := Bb_64.below st65
                        clear r_64_z r_64_c0 r_64_f0 r_64_c1 r_64_f1
                        have Br_65 := Br_64.below st65
                        have a_65_z : wo.heap.size < s65.heap.size := Ba_65.lt
                        have a_65_c0 : s65.cell? ⟨wo.heap.size, 0, none⟩ = some (.int .i64 a) := (Ba_65.cell 0).trans rfl
                        have a_65_f0 := Ba_65.frozen 0
                        have a_65_c1 : s65.cell? ⟨wo.heap.size, 1, none⟩ = some (.int .i64 b) := (Ba_65.cell 1).trans rfl
                        have a_65_f1 := Ba_65.frozen 1
                        have b_65_z : wi.heap.size < s65.heap.size := Bb_65.lt
                        have b_65_c0 : s65.cell? ⟨wi.heap.size, 0, none⟩ = some (.int .i64 c) := (Bb_65.cell 0).trans rfl
                        have b_65_f0 := Bb_65.frozen 0
                        have b_65_c1 : s65.cell? ⟨wi.heap.size, 1, none⟩ = some (.int .i64 d) := (Bb_65.cell 1).trans rfl
                        have b_65_f1 := Bb_65.frozen 1
                        have r_65_z : s61.heap.size < s65.heap.size := Br_65.lt
                        have r_65_c0 : s65.cell? ⟨s61.heap.size, 0, none⟩ = some (.int .i64 n) := (Br_65.cell 0).trans rfl
                        have r_65_f0 := Br_65.frozen 0
                        have r_65_c1 : s65.cell? ⟨s61.heap.size, 1, none⟩ = some (.int .i64 m) := (Br_65.cell 1).trans rfl
                        have r_65_f1 := Br_65.frozen 1
                        go_wp2_with fail
                        refine (HU.out _).mono ?_; rintro e s66 ⟨rfl, hb66⟩
                        have st66 := bl_step (Below.refl _ _) hb66
                        have bl66 := bl_step bl65 st66
                        clear a_65_z a_65_c0 a_65_f0 a_65_c1 a_65_f1
                        have Ba_66 := Ba_65.below st66
                        clear b_65_z b_65_c0 b_65_f0 b_65_c1 b_65_f1
                        have Bb_66 := Bb_65.below st66
                        clear r_65_z r_65_c0 r_65_f0 r_65_c1 r_65_f1
                        have Br_66 := Br_65.below st66
                        have a_66_z : wo.heap.size < s66.heap.size := Ba_66.lt
                        have a_66_c0 : s66.cell? ⟨wo.heap.size, 0, none⟩ = some (.int .i64 a) := (Ba_66.cell 0).trans rfl
                        have a_66_f0 := Ba_66.frozen 0
                        have a_66_c1 : s66.cell? ⟨wo.heap.size, 1, none⟩ = some (.int .i64 b) := (Ba_66.cell 1).trans rfl
                        have a_66_f1 := Ba_66.frozen 1
                        have b_66_z : wi.heap.size < s66.heap.size := Bb_66.lt
                        have b_66_c0 : s66.cell? ⟨wi.heap.size, 0, none⟩ = some (.int .i64 c) := (Bb_66.cell 0).trans rfl
                        have b_66_f0 := Bb_66.frozen 0
                        have b_66_c1 : s66.cell? ⟨wi.heap.size, 1, none⟩ = some (.int .i64 d) := (Bb_66.cell 1).trans rfl
                        have b_66_f1 := Bb_66.frozen 1
                        have r_66_z : s61.heap.size < s66.heap.size := Br_66.lt
                        have r_66_c0 : s66.cell? ⟨s61.heap.size, 0, none⟩ = some (.int .i64 n) := (Br_66.cell 0).trans rfl
                        have r_66_f0 := Br_66.frozen 0
                        have r_66_c1 : s66.cell? ⟨s61.heap.size, 1, none⟩ = some (.int .i64 m) := (Br_66.cell 1).trans rfl
                        have r_66_f1 := Br_66.frozen 1
                        go_wp2_with fail
                        refine (HV.out _).mono ?_; rintro e s67 ⟨rfl, hb67⟩
                        have st67 := bl_step (Below.refl _ _) hb67
                        have bl67 := bl_step bl66 st67
                        clear a_66_z a_66_c0 a_66_f0 a_66_c1 a_66_f1
                        have Ba_67 := Ba_66.below st67
                        clear b_66_z b_66_c0 b_66_f0 b_66_c1 b_66_f1
                        have Bb_67 := Bb_66.below st67
                        clear r_66_z r_66_c0 r_66_f0 r_66_c1 r_66_f1
                        have Br_67 := Br_66.below st67
                        have a_67_z : wo.heap.size < s67.heap.size := Ba_67.lt
                        have a_67_c0 : s67.cell? ⟨wo.heap.size, 0, none⟩ = some (.int .i64 a) := (Ba_67.cell 0).trans rfl
                        have a_67_f0 := Ba_67.frozen 0
                        have a_67_c1 : s67.cell? ⟨wo.heap.size, 1, none⟩ = some (.int .i64 b) := (Ba_67.cell 1).trans rfl
                        have a_67_f1 := Ba_67.frozen 1
                        have b_67_z : wi.heap.size < s67.heap.size := Bb_67.lt
                        have b_67_c0 : s67.cell? ⟨wi.heap.size, 0, none⟩ = some (.int .i64 c) := (Bb_67.cell 0).trans rfl
                        have b_67_f0 := Bb_67.frozen 0
                        have b_67_c1 : s67.cell? ⟨wi.heap.size, 1, none⟩ = some (.int .i64 d) := (Bb_67.cell 1).trans rfl
                        have b_67_f1 := Bb_67.frozen 1
                        have r_67_z : s61.heap.size < s67.heap.size := Br_67.lt
                        have r_67_c0 : s67.cell? ⟨s61.heap.size, 0, none⟩ = some (.int .i64 n) := (Br_67.cell 0).trans rfl
                        have r_67_f0 := Br_67.frozen 0
                        have r_67_c1 : s67.cell? ⟨s61.heap.size, 1, none⟩ = some (.int .i64 m) := (Br_67.cell 1).trans rfl
                        have r_67_f1 := Br_67.frozen 1
                        go_wp2_with fail
                        refine (H2.out _).mono ?_; rintro e s68 ⟨rfl, hb68⟩
                        have st68 := bl_step (Below.refl _ _) hb68
                        have bl68 := bl_step bl67 st68
                        clear a_67_z a_67_c0 a_67_f0 a_67_c1 a_67_f1
                        have Ba_68 := Ba_67.below st68
                        clear b_67_z b_67_c0 b_67_f0 b_67_c1 b_67_f1
                        have Bb_68 := Bb_67.below st68
                        clear r_67_z r_67_c0 r_67_f0 r_67_c1 r_67_f1
                        have Br_68 := Br_67.below st68
                        have a_68_z : wo.heap.size < s68.heap.size := Ba_68.lt
                        have a_68_c0 : s68.cell? ⟨wo.heap.size, 0, none⟩ = some (.int .i64 a) := (Ba_68.cell 0).trans rfl
                        have a_68_f0 := Ba_68.frozen 0
                        have a_68_c1 : s68.cell? ⟨wo.heap.size, 1, none⟩ = some (.int .i64 b) := (Ba_68.cell 1).trans rfl
                        have a_68_f1 := Ba_68.frozen 1
                        have b_68_z : wi.heap.size < s68.heap.size := Bb_68.lt
                        have b_68_c0 : s68.cell? ⟨wi.heap.size, 0, none⟩ = some (.int .i64 c) := (Bb_68.cell 0).trans rfl
                        have b_68_f0 := Bb_68.frozen 0
                        have b_68_c1 : s68.cell? ⟨wi.heap.size, 1, none⟩ = some (.int .i64 d) := (Bb_68.cell 1).trans rfl
                        have b_68_f1 := Bb_68.frozen 1
                        have r_68_z : s61.heap.size < s68.heap.size := Br_68.lt
                        have r_68_c0 : s68.cell? ⟨s61.heap.size, 0, none⟩ = some (.int .i64 n) := (Br_68.cell 0).trans rfl
                        have r_68_f0 := Br_68.frozen 0
                        have r_68_c1 : s68.cell? ⟨s61.heap.size, 1, none⟩ = some (.int .i64 m) := (Br_68.cell 1).trans rfl
                        have r_68_f1 := Br_68.frozen 1
                        go_wp2_with fail
                        go_roundw
                        case rel => exact ⟨j + 1, by go_num, by omega, bl_step be2 (bl_alloc bl68 _)⟩
                        case measure => simp only [intOf]; omega
              · have e := near_none (a := a) (b := b) (c := c) (d := d) (fun h => hx h.2)
                rw [hs] at e
                simp only [Prod.mk.injEq] at e
                obtain ⟨rfl, rfl, rfl⟩ := e
                have hx2 : 0 < cmpR a b c d := by omega
                generalize cmpR a b c d = x at HC hx2
                have HC := Lib.hid HC
                clear hs hg1 hg2 hgg hx
                go_wp2_with fail
                refine (H1.out _).mono ?_; rintro e s61 ⟨rfl, hb61⟩
                have st61 := bl_step (bl_alloc (Below.refl _ _) _) hb61
                have bl61 := bl_step bl60 st61
                have Bb_61 : Blk s61 (wi.heap.size) 23 #[.int .i64 c, .int .i64 d] := (Blk.new _ _ _).below hb61
                clear a_i_z a_i_c0 a_i_f0 a_i_c1 a_i_f1
                have Ba_61 := (Ba_51.below be2).below st61
                have a_61_z : wo.heap.size < s61.heap.size := Ba_61.lt
                have a_61_c0 : s61.cell? ⟨wo.heap.size, 0, none⟩ = some (.int .i64 a) := (Ba_61.cell 0).trans rfl
                have a_61_f0 := Ba_61.frozen 0
                have a_61_c1 : s61.cell? ⟨wo.heap.size, 1, none⟩ = some (.int .i64 b) := (Ba_61.cell 1).trans rfl
                have a_61_f1 := Ba_61.frozen 1
                have b_61_z : wi.heap.size < s61.heap.size := Bb_61.lt
                have b_61_c0 : s61.cell? ⟨wi.heap.size, 0, none⟩ = some (.int .i64 c) := (Bb_61.cell 0).trans rfl
                have b_61_f0 := Bb_61.frozen 0
                have b_61_c1 : s61.cell? ⟨wi.heap.size, 1, none⟩ = some (.int .i64 d) := (Bb_61.cell 1).trans rfl
                have b_61_f1 := Bb_61.frozen 1
                go_wp2_with fail
                refine (HG1.out _).mono ?_; rintro e s62 ⟨rfl, hb62⟩
                have st62 := bl_step (bl_alloc (Below.refl _ _) _) hb62
                have bl62 := bl_step bl61 st62
                have Br_62 : Blk s62 (s61.heap.size) 23 #[.int .i64 0, .int .i64 0] := (Blk.new _ _ _).below hb62
                clear a_61_z a_61_c0 a_61_f0 a_61_c1 a_61_f1
                have Ba_62 := Ba_61.below st62
                clear b_61_z b_61_c0 b_61_f0 b_61_c1 b_61_f1
                have Bb_62 := Bb_61.below st62
                have a_62_z : wo.heap.size < s62.heap.size := Ba_62.lt
                have a_62_c0 : s62.cell? ⟨wo.heap.size, 0, none⟩ = some (.int .i64 a) := (Ba_62.cell 0).trans rfl
                have a_62_f0 := Ba_62.frozen 0
                have a_62_c1 : s62.cell? ⟨wo.heap.size, 1, none⟩ = some (.int .i64 b) := (Ba_62.cell 1).trans rfl
                have a_62_f1 := Ba_62.frozen 1
                have b_62_z : wi.heap.size < s62.heap.size := Bb_62.lt
                have b_62_c0 : s62.cell? ⟨wi.heap.size, 0, none⟩ = some (.int .i64 c) := (Bb_62.cell 0).trans rfl
                have b_62_f0 := Bb_62.frozen 0
                have b_62_c1 : s62.cell? ⟨wi.heap.size, 1, none⟩ = some (.int .i64 d) := (Bb_62.cell 1).trans rfl
                have b_62_f1 := Bb_62.frozen 1
                have r_62_z : s61.heap.size < s62.heap.size := Br_62.lt
                have r_62_c0 : s62.cell? ⟨s61.heap.size, 0, none⟩ = some (.int .i64 0) := (Br_62.cell 0).trans rfl
                have r_62_f0 := Br_62.frozen 0
                have r_62_c1 : s62.cell? ⟨s61.heap.size, 1, none⟩ = some (.int .i64 0) := (Br_62.cell 1).trans rfl
                have r_62_f1 := Br_62.frozen 1
                go_wp2_with fail
                refine (HG2.out _).mono ?_; rintro e s63 ⟨rfl, hb63⟩
                have st63 := bl_step (Below.refl _ _) hb63
                have bl63 := bl_step bl62 st63
                clear a_62_z a_62_c0 a_62_f0 a_62_c1 a_62_f1
                have Ba_63 := Ba_62.below st63
                clear b_62_z b_62_c0 b_62_f0 b_62_c1 b_62_f1
                have Bb_63 := Bb_62.below st63
                clear r_62_z r_62_c0 r_62_f0 r_62_c1 r_62_f1
                have Br_63 := Br_62.below st63
                have a_63_z : wo.heap.size < s63.heap.size := Ba_63.lt
                have a_63_c0 : s63.cell? ⟨wo.heap.size, 0, none⟩ = some (.int .i64 a) := (Ba_63.cell 0).trans rfl
                have a_63_f0 := Ba_63.frozen 0
                have a_63_c1 : s63.cell? ⟨wo.heap.size, 1, none⟩ = some (.int .i64 b) := (Ba_63.cell 1).trans rfl
                have a_63_f1 := Ba_63.frozen 1
                have b_63_z : wi.heap.size < s63.heap.size := Bb_63.lt
                have b_63_c0 : s63.cell? ⟨wi.heap.size, 0, none⟩ = some (.int .i64 c) := (Bb_63.cell 0).trans rfl
                have b_63_f0 := Bb_63.frozen 0
                have b_63_c1 : s63.cell? ⟨wi.heap.size, 1, none⟩ = some (.int .i64 d) := (Bb_63.cell 1).trans rfl
                have b_63_f1 := Bb_63.frozen 1
                have r_63_z : s61.heap.size < s63.heap.size := Br_63.lt
                have r_63_c0 : s63.cell? ⟨s61.heap.size, 0, none⟩ = some (.int .i64 0) := (Br_63.cell 0).trans rfl
                have r_63_f0 := Br_63.frozen 0
                have r_63_c1 : s63.cell? ⟨s61.heap.size, 1, none⟩ = some (.int .i64 0) := (Br_63.cell 1).trans rfl
                have r_63_f1 := Br_63.frozen 1
                go_wp2_with fail
                refine (HC.out _).mono ?_; rintro e s64 ⟨rfl, hb64⟩
                have st64 := bl_step (Below.refl _ _) hb64
                have bl64 := bl_step bl63 st64
                clear a_63_z a_63_c0 a_63_f0 a_63_c1 a_63_f1
                have Ba_64 := Ba_63.below st64
                clear b_63_z b_63_c0 b_63_f0 b_63_c1 b_63_f1
                have Bb_64 := Bb_63.below st64
                clear r_63_z r_63_c0 r_63_f0 r_63_c1 r_63_f1
                have Br_64 := Br_63.below st64
                have a_64_z : wo.heap.size < s64.heap.size := Ba_64.lt
                have a_64_c0 : s64.cell? ⟨wo.heap.size, 0, none⟩ = some (.int .i64 a) := (Ba_64.cell 0).trans rfl
                have a_64_f0 := Ba_64.frozen 0
                have a_64_c1 : s64.cell? ⟨wo.heap.size, 1, none⟩ = some (.int .i64 b) := (Ba_64.cell 1).trans rfl
                have a_64_f1 := Ba_64.frozen 1
                have b_64_z : wi.heap.size < s64.heap.size := Bb_64.lt
                have b_64_c0 : s64.cell? ⟨wi.heap.size, 0, none⟩ = some (.int .i64 c) := (Bb_64.cell 0).trans rfl
                have b_64_f0 := Bb_64.frozen 0
                have b_64_c1 : s64.cell? ⟨wi.heap.size, 1, none⟩ = some (.int .i64 d) := (Bb_64.cell 1).trans rfl
                have b_64_f1 := Bb_64.frozen 1
                have r_64_z : s61.heap.size < s64.heap.size := Br_64.lt
                have r_64_c0 : s64.cell? ⟨s61.heap.size, 0, none⟩ = some (.int .i64 0) := (Br_64.cell 0).trans rfl
                have r_64_f0 := Br_64.frozen 0
                have r_64_c1 : s64.cell? ⟨s61.heap.size, 1, none⟩ = some (.int .i64 0) := (Br_64.cell 1).trans rfl
                have r_64_f1 := Br_64.frozen 1
                go_wp2_with fail
                go_roundw
                case rel => exact ⟨j + 1, by go_num, by omega, bl_step be2 bl64⟩
                case measure => simp only [intOf]; omega
        · go_wp2_with fail
          go_roundw
          case rel => exact ⟨i + 1, by go_num, by omega, bl_step be (bl_step bl51 be2)⟩
          case measure => simp only [intOf]; omega
    · go_wp2_with fail
      refine (HW.out _ blo).mono ?_; rintro e q1 ⟨rfl, hq1⟩
      have blq := bl_step blo hq1
      go_wp2
      go_ret
      exact ⟨rfl, blq⟩
end Go.Proofs.YtkdklmkcanjjfaaDoor
