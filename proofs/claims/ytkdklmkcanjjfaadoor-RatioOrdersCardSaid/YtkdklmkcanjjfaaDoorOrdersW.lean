/- The walk of RatioOrders: which of every two ratios is the greater one, and each rounded down and up, is the document's answer. -/
import Derived.Test.YtkdklmkcanjjfaaDoorRatG
namespace Go.Proofs.YtkdklmkcanjjfaaDoor
open Go.RowKit
set_option linter.unusedVariables false
set_option linter.unusedSimpArgs false
set_option maxRecDepth 100000

set_option maxHeartbeats 12800000 in
theorem RatioOrders_walk (x0 x1 y0 y1 : Int) (w : World) (hw : RatW w) (i0 : InI x0) (i1 : InI x1) (j0 : InI y0) (j1 : InI y1) :
    Calls Tryd.prog 5 #[.agg #[.int .i64 x0, .int .i64 x1], .agg #[.int .i64 y0, .int .i64 y1]] w fun e w' => e = .returned (.bool true) ∧ Below w.heap.size w w' := by
  have HX := Lib.hid (fun w => some_any x0 x1 w i0 i1)
  have HY := Lib.hid (fun w => some_any y0 y1 w j0 j1)
  have HW := Lib.hid (fun w' (hb : Below w.heap.size w w') => wakes2_any w' (hw.below hb))
  have HL := Lib.hid (rsOf_len x0 x1)
  have HI := Lib.hid (rsOf_in i0 i1)
  have HM := Lib.hid (rsOf_len y0 y1)
  have HJ := Lib.hid (rsOf_in j0 j1)
  generalize rsOf x0 x1 = rs at HX HL HI
  generalize rsOf y0 y1 = ss at HY HM HJ
  go_enter Tryd.func5, Tryd.ntmps5
  go_wp2_with fail
  refine (HX.out _).mono ?_; rintro e v1 ⟨u1, rfl, hown1, hb1⟩; obtain ⟨g1, c1, rfl, hn1, hc1, hg1, hlo1, hr1⟩ := own_pairs hown1 HL.out.1
  have st1 := bl_step (bl_alloc (bl_alloc (Below.refl _ _) _) _) hb1
  have bl1 := st1
  have Bx_1 : Blk v1 (w.heap.size) 31 #[.int .i64 x0, .int .i64 x1] := ((Blk.new _ _ _).alloc _).below hb1
  have By_1 : Blk v1 (w.heap.size + 1) 31 #[.int .i64 y0, .int .i64 y1] := (Blk.new' (by simp) _ _).below hb1
  have x_1_z : w.heap.size < v1.heap.size := Bx_1.lt
  have x_1_c0 : v1.cell? ⟨w.heap.size, 0, none⟩ = some (.int .i64 x0) := (Bx_1.cell 0).trans rfl
  have x_1_f0 := Bx_1.frozen 0
  have x_1_c1 : v1.cell? ⟨w.heap.size, 1, none⟩ = some (.int .i64 x1) := (Bx_1.cell 1).trans rfl
  have x_1_f1 := Bx_1.frozen 1
  have y_1_z : w.heap.size + 1 < v1.heap.size := By_1.lt
  have y_1_c0 : v1.cell? ⟨w.heap.size + 1, 0, none⟩ = some (.int .i64 y0) := (By_1.cell 0).trans rfl
  have y_1_f0 := By_1.frozen 0
  have y_1_c1 : v1.cell? ⟨w.heap.size + 1, 1, none⟩ = some (.int .i64 y1) := (By_1.cell 1).trans rfl
  have y_1_f1 := By_1.frozen 1
  have HR1 := Lib.hid hr1
  clear hr1 x_1_z x_1_c0 x_1_f0 x_1_c1 x_1_f1 y_1_z y_1_c0 y_1_f0 y_1_c1 y_1_f1
  have hl2 := HL.out.2
  go_wp2_with fail
  go_loopw [12] (fun vi wr => ∃ i : Nat, vi = .int .i64 i ∧ i ≤ rs.length ∧ Below v1.heap.size v1 wr) (fun vi _ => rs.length - (intOf vi).toNat)
  case atStart => exact ⟨0, rfl, Nat.zero_le _, Below.refl _ _⟩
  case round =>
    obtain ⟨i, rfl, hi, be⟩ := hrel
    generalize wr = wo at be ⊢
    have blo := bl_step bl1 be
    by_cases hlt : i < rs.length
    · obtain ⟨⟨a, b⟩, hp⟩ : ∃ p, rs[i]? = some p := ⟨_, List.getElem?_eq_getElem hlt⟩
      have hin := HI.out _ (List.mem_of_getElem? hp)
      have cA : wo.cell? ⟨g1, i * 2, none⟩ = some (.int .i64 a) := (be.cell hg1).trans (HR1.out i _ hp).1
      have cB : wo.cell? ⟨g1, i * 2 + 1, none⟩ = some (.int .i64 b) := (be.cell hg1).trans (HR1.out i _ hp).2
      have IA : Hid (InI a) := Lib.hid hin.1
      have IB : Hid (InI b) := Lib.hid hin.2
      clear hp hin
      have y_o_z : w.heap.size + 1 < wo.heap.size := (By_1.below be).lt
      have y_o_c0 : wo.cell? ⟨w.heap.size + 1, 0, none⟩ = some (.int .i64 y0) := ((By_1.below be).cell 0).trans rfl
      have y_o_f0 := (By_1.below be).frozen 0
      have y_o_c1 : wo.cell? ⟨w.heap.size + 1, 1, none⟩ = some (.int .i64 y1) := ((By_1.below be).cell 1).trans rfl
      have y_o_f1 := (By_1.below be).frozen 1
      have bl50 : Below wo.heap.size wo wo := Below.refl _ _
      go_wp2_with fail
      refine (HY.out _).mono ?_; rintro e r51 ⟨u2, rfl, hown2, hb51⟩; obtain ⟨g2, c2, rfl, hn2, hc2, hg2, hlo2, hr2⟩ := own_pairs hown2 HM.out.1
      have st51 := bl_step (bl_alloc (Below.refl _ _) _) hb51
      have bl51 := bl_step bl50 st51
      have Ba_51 : Blk r51 (wo.heap.size) 23 #[.int .i64 a, .int .i64 b] := (Blk.new _ _ _).below hb51
      clear y_o_z y_o_c0 y_o_f0 y_o_c1 y_o_f1
      have By_51 := (By_1.below be).below st51
      have y_51_z : w.heap.size + 1 < r51.heap.size := By_51.lt
      have y_51_c0 : r51.cell? ⟨w.heap.size + 1, 0, none⟩ = some (.int .i64 y0) := (By_51.cell 0).trans rfl
      have y_51_f0 := By_51.frozen 0
      have y_51_c1 : r51.cell? ⟨w.heap.size + 1, 1, none⟩ = some (.int .i64 y1) := (By_51.cell 1).trans rfl
      have y_51_f1 := By_51.frozen 1
      have a_51_z : wo.heap.size < r51.heap.size := Ba_51.lt
      have a_51_c0 : r51.cell? ⟨wo.heap.size, 0, none⟩ = some (.int .i64 a) := (Ba_51.cell 0).trans rfl
      have a_51_f0 := Ba_51.frozen 0
      have a_51_c1 : r51.cell? ⟨wo.heap.size, 1, none⟩ = some (.int .i64 b) := (Ba_51.cell 1).trans rfl
      have a_51_f1 := Ba_51.frozen 1
      have HR2 := Lib.hid hr2
      clear hr2 a_51_z a_51_c0 a_51_f0 a_51_c1 a_51_f1 y_51_z y_51_c0 y_51_f0 y_51_c1 y_51_f1
      have hm2 := HM.out.2
      go_wp2_with fail
      go_loopw [19] (fun vj wr => ∃ j : Nat, vj = .int .i64 j ∧ j ≤ ss.length ∧ Below r51.heap.size r51 wr) (fun vj _ => ss.length - (intOf vj).toNat)
      case atStart => exact ⟨0, rfl, Nat.zero_le _, Below.refl _ _⟩
      case round =>
        obtain ⟨j, rfl, hj, be2⟩ := hrel
        generalize wr = wi at be2 ⊢
        have bli := bl_step bl51 be2
        by_cases hlt2 : j < ss.length
        · obtain ⟨⟨c, d⟩, hq⟩ : ∃ p, ss[j]? = some p := ⟨_, List.getElem?_eq_getElem hlt2⟩
          have hin := HJ.out _ (List.mem_of_getElem? hq)
          have cC : wi.cell? ⟨g2, j * 2, none⟩ = some (.int .i64 c) := (be2.cell hg2).trans (HR2.out j _ hq).1
          have cD : wi.cell? ⟨g2, j * 2 + 1, none⟩ = some (.int .i64 d) := (be2.cell hg2).trans (HR2.out j _ hq).2
          have IC : Hid (InI c) := Lib.hid hin.1
          have ID : Hid (InI d) := Lib.hid hin.2
          clear hq hin
          have H1 := Lib.hid (fun w => rcmp_any a b c d w IA.out IB.out IC.out ID.out)
          have H2 := Lib.hid (fun w => bcmp_any a b c d w IA.out IB.out IC.out ID.out)
          generalize cmpR a b c d = n1 at H1 H2
          have bl60 : Below wi.heap.size wi wi := Below.refl _ _
          have a_i_z : wo.heap.size < wi.heap.size := (Ba_51.below be2).lt
          have a_i_c0 : wi.cell? ⟨wo.heap.size, 0, none⟩ = some (.int .i64 a) := ((Ba_51.below be2).cell 0).trans rfl
          have a_i_f0 := (Ba_51.below be2).frozen 0
          have a_i_c1 : wi.cell? ⟨wo.heap.size, 1, none⟩ = some (.int .i64 b) := ((Ba_51.below be2).cell 1).trans rfl
          have a_i_f1 := (Ba_51.below be2).frozen 1
          go_wp2_with fail
          have Na_60 : Blk (wi.alloc (.cells #[.int .i64 c, .int .i64 d] 23)) (wo.heap.size) 23 #[.int .i64 a, .int .i64 b] := ((Ba_51.below be2).alloc _)
          clear a_i_z a_i_c0 a_i_f0 a_i_c1 a_i_f1
          have Nb_60 : Blk (wi.alloc (.cells #[.int .i64 c, .int .i64 d] 23)) (wi.heap.size) 23 #[.int .i64 c, .int .i64 d] := (Blk.new _ _ _)
          have bl60 := bl_alloc (bl60) (.cells #[.int .i64 c, .int .i64 d] 23)
          generalize wi.alloc (.cells #[.int .i64 c, .int .i64 d] 23) = sw60 at Na_60 Nb_60 bl60 ⊢
          have a_n60_z : wo.heap.size < sw60.heap.size := Na_60.lt
          have a_n60_c0 : sw60.cell? ⟨wo.heap.size, 0, none⟩ = some (.int .i64 a) := (Na_60.cell 0).trans rfl
          have a_n60_f0 := Na_60.frozen 0
          have a_n60_c1 : sw60.cell? ⟨wo.heap.size, 1, none⟩ = some (.int .i64 b) := (Na_60.cell 1).trans rfl
          have a_n60_f1 := Na_60.frozen 1
          have b_n60_z : wi.heap.size < sw60.heap.size := Nb_60.lt
          have b_n60_c0 : sw60.cell? ⟨wi.heap.size, 0, none⟩ = some (.int .i64 c) := (Nb_60.cell 0).trans rfl
          have b_n60_f0 := Nb_60.frozen 0
          have b_n60_c1 : sw60.cell? ⟨wi.heap.size, 1, none⟩ = some (.int .i64 d) := (Nb_60.cell 1).trans rfl
          have b_n60_f1 := Nb_60.frozen 1
          go_region_held3 (fun w' => w'.cell? ⟨wo.heap.size, 0, none⟩ = some (.int .i64 a) ∧ w'.cell? ⟨wo.heap.size, 1, none⟩ = some (.int .i64 b) ∧ w'.cell? ⟨wi.heap.size, 0, none⟩ = some (.int .i64 c) ∧ w'.cell? ⟨wi.heap.size, 1, none⟩ = some (.int .i64 d)) (go_keep) (first | (go_at_call 22; with_reducible refine (H1.out _).mono ?_; rintro e s61 ⟨rfl, hb61⟩; have st61 := bl_step (bl_drew (Below.refl _ _)) hb61; have bl61 := bl_step bl60 st61; have Ba_61 := Na_60.below st61; clear a_n60_z a_n60_c0 a_n60_f0 a_n60_c1 a_n60_f1; have a_61_z : wo.heap.size < s61.heap.size := Ba_61.lt; have a_61_c0 : s61.cell? ⟨wo.heap.size, 0, none⟩ = some (.int .i64 a) := (Ba_61.cell 0).trans rfl; have a_61_f0 := Ba_61.frozen 0; have a_61_c1 : s61.cell? ⟨wo.heap.size, 1, none⟩ = some (.int .i64 b) := (Ba_61.cell 1).trans rfl; have a_61_f1 := Ba_61.frozen 1; have Bb_61 := Nb_60.below st61; clear b_n60_z b_n60_c0 b_n60_f0 b_n60_c1 b_n60_f1; have b_61_z : wi.heap.size < s61.heap.size := Bb_61.lt; have b_61_c0 : s61.cell? ⟨wi.heap.size, 0, none⟩ = some (.int .i64 c) := (Bb_61.cell 0).trans rfl; have b_61_f0 := Bb_61.frozen 0; have b_61_c1 : s61.cell? ⟨wi.heap.size, 1, none⟩ = some (.int .i64 d) := (Bb_61.cell 1).trans rfl; have b_61_f1 := Bb_61.frozen 1) | (go_at_call 23; with_reducible refine (H2.out _).mono ?_; rintro e s62 ⟨rfl, hb62⟩; have st62 := bl_step (Below.refl _ _) hb62; have bl62 := bl_step bl61 st62; have Ba_62 := Ba_61.below st62; clear a_61_z a_61_c0 a_61_f0 a_61_c1 a_61_f1; have a_62_z : wo.heap.size < s62.heap.size := Ba_62.lt; have a_62_c0 : s62.cell? ⟨wo.heap.size, 0, none⟩ = some (.int .i64 a) := (Ba_62.cell 0).trans rfl; have a_62_f0 := Ba_62.frozen 0; have a_62_c1 : s62.cell? ⟨wo.heap.size, 1, none⟩ = some (.int .i64 b) := (Ba_62.cell 1).trans rfl; have a_62_f1 := Ba_62.frozen 1; have Bb_62 := Bb_61.below st62; clear b_61_z b_61_c0 b_61_f0 b_61_c1 b_61_f1; have b_62_z : wi.heap.size < s62.heap.size := Bb_62.lt; have b_62_c0 : s62.cell? ⟨wi.heap.size, 0, none⟩ = some (.int .i64 c) := (Bb_62.cell 0).trans rfl; have b_62_f0 := Bb_62.frozen 0; have b_62_c1 : s62.cell? ⟨wi.heap.size, 1, none⟩ = some (.int .i64 d) := (Bb_62.cell 1).trans rfl; have b_62_f1 := Bb_62.frozen 1))
          have blx := bl_step be2 bl62
          go_wp2_with fail
          go_roundw
          case rel => exact ⟨j + 1, by go_num, by omega, blx⟩
          case measure => simp only [intOf]; omega
        · have F1 := Lib.hid (fun w => rfloor_any a b w IA.out IB.out)
          have F2 := Lib.hid (fun w => bwhole_any a b w IA.out IB.out false)
          have F3 := Lib.hid (fun w => rceil_any a b w IA.out IB.out)
          have F4 := Lib.hid (fun w => bwhole_any a b w IA.out IB.out true)
          generalize wholeR a b false = m1 at F1 F2
          generalize wholeR a b true = m2 at F3 F4
          have HBA := Ba_51.below be2
          have bl70 : Below wi.heap.size wi wi := Below.refl _ _
          have a_i_z : wo.heap.size < wi.heap.size := HBA.lt
          have a_i_c0 : wi.cell? ⟨wo.heap.size, 0, none⟩ = some (.int .i64 a) := (HBA.cell 0).trans rfl
          have a_i_f0 := HBA.frozen 0
          have a_i_c1 : wi.cell? ⟨wo.heap.size, 1, none⟩ = some (.int .i64 b) := (HBA.cell 1).trans rfl
          have a_i_f1 := HBA.frozen 1
          go_wp2_with fail
          go_region_held3 (fun w' => w'.cell? ⟨wo.heap.size, 0, none⟩ = some (.int .i64 a) ∧ w'.cell? ⟨wo.heap.size, 1, none⟩ = some (.int .i64 b)) (go_keep) (first | (go_at_call 24; with_reducible refine (F1.out _).mono ?_; rintro e t71 ⟨rfl, hb71⟩; have st71 := bl_step (bl_drew (Below.refl _ _)) hb71; have bl71 := bl_step bl70 st71; have Ba_71 := HBA.below st71; clear a_i_z a_i_c0 a_i_f0 a_i_c1 a_i_f1; have a_71_z : wo.heap.size < t71.heap.size := Ba_71.lt; have a_71_c0 : t71.cell? ⟨wo.heap.size, 0, none⟩ = some (.int .i64 a) := (Ba_71.cell 0).trans rfl; have a_71_f0 := Ba_71.frozen 0; have a_71_c1 : t71.cell? ⟨wo.heap.size, 1, none⟩ = some (.int .i64 b) := (Ba_71.cell 1).trans rfl; have a_71_f1 := Ba_71.frozen 1) | (go_at_call 25; with_reducible refine (F2.out _).mono ?_; rintro e t72 ⟨rfl, hb72⟩; have st72 := bl_step (Below.refl _ _) hb72; have bl72 := bl_step bl71 st72; have Ba_72 := Ba_71.below st72; clear a_71_z a_71_c0 a_71_f0 a_71_c1 a_71_f1; have a_72_z : wo.heap.size < t72.heap.size := Ba_72.lt; have a_72_c0 : t72.cell? ⟨wo.heap.size, 0, none⟩ = some (.int .i64 a) := (Ba_72.cell 0).trans rfl; have a_72_f0 := Ba_72.frozen 0; have a_72_c1 : t72.cell? ⟨wo.heap.size, 1, none⟩ = some (.int .i64 b) := (Ba_72.cell 1).trans rfl; have a_72_f1 := Ba_72.frozen 1) | (go_at_call 26; with_reducible refine (F3.out _).mono ?_; rintro e t73 ⟨rfl, hb73⟩; have st73 := bl_step (Below.refl _ _) hb73; have bl73 := bl_step bl72 st73; have Ba_73 := Ba_72.below st73; clear a_72_z a_72_c0 a_72_f0 a_72_c1 a_72_f1; have a_73_z : wo.heap.size < t73.heap.size := Ba_73.lt; have a_73_c0 : t73.cell? ⟨wo.heap.size, 0, none⟩ = some (.int .i64 a) := (Ba_73.cell 0).trans rfl; have a_73_f0 := Ba_73.frozen 0; have a_73_c1 : t73.cell? ⟨wo.heap.size, 1, none⟩ = some (.int .i64 b) := (Ba_73.cell 1).trans rfl; have a_73_f1 := Ba_73.frozen 1) | (go_at_call 25; with_reducible refine (F4.out _).mono ?_; rintro e t74 ⟨rfl, hb74⟩; have st74 := bl_step (Below.refl _ _) hb74; have bl74 := bl_step bl73 st74; have Ba_74 := Ba_73.below st74; clear a_73_z a_73_c0 a_73_f0 a_73_c1 a_73_f1; have a_74_z : wo.heap.size < t74.heap.size := Ba_74.lt; have a_74_c0 : t74.cell? ⟨wo.heap.size, 0, none⟩ = some (.int .i64 a) := (Ba_74.cell 0).trans rfl; have a_74_f0 := Ba_74.frozen 0; have a_74_c1 : t74.cell? ⟨wo.heap.size, 1, none⟩ = some (.int .i64 b) := (Ba_74.cell 1).trans rfl; have a_74_f1 := Ba_74.frozen 1))
          go_wp2_with fail
          go_roundw
          case rel => exact ⟨i + 1, by go_num, by omega, bl_step be (bl_step bl51 (bl_step be2 bl74))⟩
          case measure => simp only [intOf]; omega
    · go_wp2_with fail
      refine (HW.out _ blo).mono ?_; rintro e q1 ⟨rfl, hq1⟩
      have blq := bl_step blo hq1
      go_wp2
      go_ret
      exact ⟨rfl, blq⟩
end Go.Proofs.YtkdklmkcanjjfaaDoor
