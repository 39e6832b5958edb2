/- The walk of RatioParts: the difference and the quotient of every two ratios is the document's, or there is none; what is taken away is added again. -/
import Derived.Test.YtkdklmkcanjjfaaDoorRatG
import Derived.Test.YtkdklmkcanjjfaaDoorRatLaw
namespace Go.Proofs.YtkdklmkcanjjfaaDoor
open Go.RowKit
set_option linter.unusedVariables false
set_option linter.unusedSimpArgs false
set_option maxRecDepth 100000

structure IfBoth (x y : Bool) (p q r s : Int) : Prop where
  out : x = true → y = true → p = q ∧ r = s
set_option maxHeartbeats 12800000 in
theorem RatioParts_walk (x0 x1 y0 y1 : Int) (w : World) (hw : RatW w) (i0 : InI x0) (i1 : InI x1) (j0 : InI y0) (j1 : InI y1) :
    Calls Tryd.prog 8 #[.agg #[.int .i64 x0, .int .i64 x1], .agg #[.int .i64 y0, .int .i64 y1]] w fun e w' => e = .returned (.bool true) ∧ Below w.heap.size w w' := by
  have HX := Lib.hid (fun w => some_any x0 x1 w i0 i1)
  have HY := Lib.hid (fun w => some_any y0 y1 w j0 j1)
  have HW := Lib.hid (fun w' (hb : Below w.heap.size w w') => wakes2_any w' (hw.below hb))
  have HL := Lib.hid (rsOf_len x0 x1)
  have HI := Lib.hid (rsOf_in i0 i1)
  have HM := Lib.hid (rsOf_len y0 y1)
  have HJ := Lib.hid (rsOf_in j0 j1)
  generalize rsOf x0 x1 = rs at HX HL HI
  generalize rsOf y0 y1 = ss at HY HM HJ
  go_enter Tryd.func8, Tryd.ntmps8
  go_wp2_with fail
  refine (HX.out _).mono ?_; rintro e v1 ⟨u1, rfl, hown1, hb1⟩; obtain ⟨g1, c1, rfl, hn1, hc1, hg1, hlo1, hr1⟩ := own_pairs hown1 HL.out.1
  have st1 := bl_step (bl_alloc (bl_alloc (Below.refl _ _) _) _) hb1
  have bl1 := st1
  have Bx_1 : Blk v1 (w.heap.size) 31 #[.int .i64 x0, .int .i64 x1] := ((Blk.new _ _ _).alloc _).below hb1
  have By_1 : Blk v1 (w.heap.size + 1) 31 #[.int .i64 y0, .int .i64 y1] := (Blk.new' (by simp) _ _).below hb1
  have x_1_z : w.heap.size < v1.heap.size := Bx_1.lt
  have x_1_c0 : v1.cell? ⟨w.heap.size, 0, none⟩ = some (.int .i64 x0) := (Bx_1.cell 0).trans rfl
  have x_1_f0 := Bx_1.frozen 0
  have x_1_c1 : v1.cell? ⟨w.heap.size, 1, none⟩ = some (.int .i64 x1) := (Bx_1.cell 1).trans rfl
  have x_1_f1 := Bx_1.frozen 1
  have y_1_z : w.heap.size + 1 < v1.heap.size := By_1.lt
  have y_1_c0 : v1.cell? ⟨w.heap.size + 1, 0, none⟩ = some (.int .i64 y0) := (By_1.cell 0).trans rfl
  have y_1_f0 := By_1.frozen 0
  have y_1_c1 : v1.cell? ⟨w.heap.size + 1, 1, none⟩ = some (.int .i64 y1) := (By_1.cell 1).trans rfl
  have y_1_f1 := By_1.frozen 1
  have HR1 := Lib.hid hr1
  clear hr1 x_1_z x_1_c0 x_1_f0 x_1_c1 x_1_f1 y_1_z y_1_c0 y_1_f0 y_1_c1 y_1_f1
  have hl2 := HL.out.2
  go_wp2_with fail
  go_loopw [24] (fun vi wr => ∃ i : Nat, vi = .int .i64 i ∧ i ≤ rs.length ∧ Below v1.heap.size v1 wr) (fun vi _ => rs.length - (intOf vi).toNat)
  case atStart => exact ⟨0, rfl, Nat.zero_le _, Below.refl _ _⟩
  case round =>
    obtain ⟨i, rfl, hi, be⟩ := hrel
    generalize wr = wo at be ⊢
    have blo := bl_step bl1 be
    by_cases hlt : i < rs.length
    · obtain ⟨⟨a, b⟩, hp⟩ : ∃ p, rs[i]? = some p := ⟨_, List.getElem?_eq_getElem hlt⟩
      have hin := HI.out _ (List.mem_of_getElem? hp)
      have cA : wo.cell? ⟨g1, i * 2, none⟩ = some (.int .i64 a) := (be.cell hg1).trans (HR1.out i _ hp).1
      have cB : wo.cell? ⟨g1, i * 2 + 1, none⟩ = some (.int .i64 b) := (be.cell hg1).trans (HR1.out i _ hp).2
      have IA : Hid (InI a) := Lib.hid hin.1
      have IB : Hid (InI b) := Lib.hid hin.2
      clear hp hin
      have y_o_z : w.heap.size + 1 < wo.heap.size := (By_1.below be).lt
      have y_o_c0 : wo.cell? ⟨w.heap.size + 1, 0, none⟩ = some (.int .i64 y0) := ((By_1.below be).cell 0).trans rfl
      have y_o_f0 := (By_1.below be).frozen 0
      have y_o_c1 : wo.cell? ⟨w.heap.size + 1, 1, none⟩ = some (.int .i64 y1) := ((By_1.below be).cell 1).trans rfl
      have y_o_f1 := (By_1.below be).frozen 1
      have bl50 : Below wo.heap.size wo wo := Below.refl _ _
      go_wp2_with fail
      refine (HY.out _).mono ?_; rintro e r51 ⟨u2, rfl, hown2, hb51⟩; obtain ⟨g2, c2, rfl, hn2, hc2, hg2, hlo2, hr2⟩ := own_pairs hown2 HM.out.1
      have st51 := bl_step (bl_alloc (Below.refl _ _) _) hb51
      have bl51 := bl_step bl50 st51
      have Ba_51 : Blk r51 (wo.heap.size) 23 #[.int .i64 a, .int .i64 b] := (Blk.new _ _ _).below hb51
      clear y_o_z y_o_c0 y_o_f0 y_o_c1 y_o_f1
      have By_51 := (By_1.below be).below st51
      have y_51_z : w.heap.size + 1 < r51.heap.size := By_51.lt
      have y_51_c0 : r51.cell? ⟨w.heap.size + 1, 0, none⟩ = some (.int .i64 y0) := (By_51.cell 0).trans rfl
      have y_51_f0 := By_51.frozen 0
      have y_51_c1 : r51.cell? ⟨w.heap.size + 1, 1, none⟩ = some (.int .i64 y1) := (By_51.cell 1).trans rfl
      have y_51_f1 := By_51.frozen 1
      have a_51_z : wo.heap.size < r51.heap.size := Ba_51.lt
      have a_51_c0 : r51.cell? ⟨wo.heap.size, 0, none⟩ = some (.int .i64 a) := (Ba_51.cell 0).trans rfl
      have a_51_f0 := Ba_51.frozen 0
      have a_51_c1 : r51.cell? ⟨wo.heap.size, 1, none⟩ = some (.int .i64 b) := (Ba_51.cell 1).trans rfl
      have a_51_f1 := Ba_51.frozen 1
      have HR2 := Lib.hid hr2
      clear hr2 a_51_z a_51_c0 a_51_f0 a_51_c1 a_51_f1 y_51_z y_51_c0 y_51_f0 y_51_c1 y_51_f1
      have hm2 := HM.out.2
      go_wp2_with fail
      go_loopw [31] (fun vj wr => ∃ j : Nat, vj = .int .i64 j ∧ j ≤ ss.length ∧ Below r51.heap.size r51 wr) (fun vj _ => ss.length - (intOf vj).toNat)
      case atStart => exact ⟨0, rfl, Nat.zero_le _, Below.refl _ _⟩
      case round =>
        obtain ⟨j, rfl, hj, be2⟩ := hrel
        generalize wr = wi at be2 ⊢
        have bli := bl_step bl51 be2
        by_cases hlt2 : j < ss.length
        · obtain ⟨⟨c, d⟩, hq⟩ : ∃ p, ss[j]? = some p := ⟨_, List.getElem?_eq_getElem hlt2⟩
          have hin := HJ.out _ (List.mem_of_getElem? hq)
          have cC : wi.cell? ⟨g2, j * 2, none⟩ = some (.int .i64 c) := (be2.cell hg2).trans (HR2.out j _ hq).1
          have cD : wi.cell? ⟨g2, j * 2 + 1, none⟩ = some (.int .i64 d) := (be2.cell hg2).trans (HR2.out j _ hq).2
          have IC : Hid (InI c) := Lib.hid hin.1
          have ID : Hid (InI d) := Lib.hid hin.2
          clear hq hin
          have H1 := Lib.hid (fun w => rsub_any a b c d w IA.out IB.out IC.out ID.out)
          have H2 := Lib.hid (fun w => bsub_any a b c d w IA.out IB.out IC.out ID.out)
          have H3 := Lib.hid (fun w => rquo_any a b c d w IA.out IB.out IC.out ID.out)
          have H4 := Lib.hid (fun w => bquo_any a b c d w IA.out IB.out IC.out ID.out)
          have H5 := Lib.hid (fun w => radd_any (subN a b c d) (subD a b c d) c d w (sub_in a b c d).1 (sub_in a b c d).2 IC.out ID.out)
          have HA : IfBoth (subB a b c d) (addB (subN a b c d) (subD a b c d) c d) (addN (subN a b c d) (subD a b c d) c d) a (addD (subN a b c d) (subD a b c d) c d) b := ⟨fun h1 h2 => again h1 h2⟩
          generalize addN (subN a b c d) (subD a b c d) c d = n3 at H5 HA
          generalize addD (subN a b c d) (subD a b c d) c d = d3 at H5 HA
          generalize addB (subN a b c d) (subD a b c d) c d = x3 at H5 HA
          generalize subN a b c d = n1 at H1 H2 H5
          generalize subD a b c d = d1 at H1 H2 H5
          generalize subB a b c d = x1 at H1 H2 HA
          generalize quoN a b c d = n2 at H3 H4
          generalize quoD a b c d = d2 at H3 H4
          generalize quoB a b c d = x2 at H3 H4
          have bl60 : Below wi.heap.size wi wi := Below.refl _ _
          have a_i_z : wo.heap.size < wi.heap.size := (Ba_51.below be2).lt
          have a_i_c0 : wi.cell? ⟨wo.heap.size, 0, none⟩ = some (.int .i64 a) := ((Ba_51.below be2).cell 0).trans rfl
          have a_i_f0 := (Ba_51.below be2).frozen 0
          have a_i_c1 : wi.cell? ⟨wo.heap.size, 1, none⟩ = some (.int .i64 b) := ((Ba_51.below be2).cell 1).trans rfl
          have a_i_f1 := (Ba_51.below be2).frozen 1
          go_wp2_with fail
          refine (H1.out _).mono ?_; rintro e s61 ⟨rfl, hb61⟩
          have st61 := bl_step (bl_alloc (Below.refl _ _) _) hb61
          have bl61 := bl_step bl60 st61
          have Bb_61 : Blk s61 (wi.heap.size) 23 #[.int .i64 c, .int .i64 d] := (Blk.new _ _ _).below hb61
          clear a_i_z a_i_c0 a_i_f0 a_i_c1 a_i_f1
          have Ba_61 := (Ba_51.below be2).below st61
          have a_61_z : wo.heap.size < s61.heap.size := Ba_61.lt
          have a_61_c0 : s61.cell? ⟨wo.heap.size, 0, none⟩ = some (.int .i64 a) := (Ba_61.cell 0).trans rfl
          have a_61_f0 := Ba_61.frozen 0
          have a_61_c1 : s61.cell? ⟨wo.heap.size, 1, none⟩ = some (.int .i64 b) := (Ba_61.cell 1).trans rfl
          have a_61_f1 := Ba_61.frozen 1
          have b_61_z : wi.heap.size < s61.heap.size := Bb_61.lt
          have b_61_c0 : s61.cell? ⟨wi.heap.size, 0, none⟩ = some (.int .i64 c) := (Bb_61.cell 0).trans rfl
          have b_61_f0 := Bb_61.frozen 0
          have b_61_c1 : s61.cell? ⟨wi.heap.size, 1, none⟩ = some (.int .i64 d) := (Bb_61.cell 1).trans rfl
          have b_61_f1 := Bb_61.frozen 1
          go_wp2_with fail
          refine (H2.out _).mono ?_; rintro e s62 ⟨rfl, hb62⟩
          have st62 := bl_step (bl_alloc (Below.refl _ _) _) hb62
          have bl62 := bl_step bl61 st62
          have Bs_62 : Blk s62 (s61.heap.size) 23 #[.int .i64 n1, .int .i64 d1] := (Blk.new _ _ _).below hb62
          clear a_61_z a_61_c0 a_61_f0 a_61_c1 a_61_f1
          have Ba_62 := Ba_61.below st62
          clear b_61_z b_61_c0 b_61_f0 b_61_c1 b_61_f1
          have Bb_62 := Bb_61.below st62
          have a_62_z : wo.heap.size < s62.heap.size := Ba_62.lt
          have a_62_c0 : s62.cell? ⟨wo.heap.size, 0, none⟩ = some (.int .i64 a) := (Ba_62.cell 0).trans rfl
          have a_62_f0 := Ba_62.frozen 0
          have a_62_c1 : s62.cell? ⟨wo.heap.size, 1, none⟩ = some (.int .i64 b) := (Ba_62.cell 1).trans rfl
          have a_62_f1 := Ba_62.frozen 1
          have b_62_z : wi.heap.size < s62.heap.size := Bb_62.lt
          have b_62_c0 : s62.cell? ⟨wi.heap.size, 0, none⟩ = some (.int .i64 c) := (Bb_62.cell 0).trans rfl
          have b_62_f0 := Bb_62.frozen 0
          have b_62_c1 : s62.cell? ⟨wi.heap.size, 1, none⟩ = some (.int .i64 d) := (Bb_62.cell 1).trans rfl
          have b_62_f1 := Bb_62.frozen 1
          have s_62_z : s61.heap.size < s62.heap.size := Bs_62.lt
          have s_62_c0 : s62.cell? ⟨s61.heap.size, 0, none⟩ = some (.int .i64 n1) := (Bs_62.cell 0).trans rfl
          have s_62_f0 := Bs_62.frozen 0
          have s_62_c1 : s62.cell? ⟨s61.heap.size, 1, none⟩ = some (.int .i64 d1) := (Bs_62.cell 1).trans rfl
          have s_62_f1 := Bs_62.frozen 1
          go_wp2_with fail
          refine (H3.out _).mono ?_; rintro e s63 ⟨rfl, hb63⟩
          have st63 := bl_step (Below.refl _ _) hb63
          have bl63 := bl_step bl62 st63
          clear a_62_z a_62_c0 a_62_f0 a_62_c1 a_62_f1
          have Ba_63 := Ba_62.below st63
          clear b_62_z b_62_c0 b_62_f0 b_62_c1 b_62_f1
          have Bb_63 := Bb_62.below st63
          clear s_62_z s_62_c0 s_62_f0 s_62_c1 s_62_f1
          have Bs_63 := Bs_62.below st63
          have a_63_z : wo.heap.size < s63.heap.size := Ba_63.lt
          have a_63_c0 : s63.cell? ⟨wo.heap.size, 0, none⟩ = some (.int .i64 a) := (Ba_63.cell 0).trans rfl
          have a_63_f0 := Ba_63.frozen 0
          have a_63_c1 : s63.cell? ⟨wo.heap.size, 1, none⟩ = some (.int .i64 b) := (Ba_63.cell 1).trans rfl
          have a_63_f1 := Ba_63.frozen 1
          have b_63_z : wi.heap.size < s63.heap.size := Bb_63.lt
          have b_63_c0 : s63.cell? ⟨wi.heap.size, 0, none⟩ = some (.int .i64 c) := (Bb_63.cell 0).trans rfl
          have b_63_f0 := Bb_63.frozen 0
          have b_63_c1 : s63.cell? ⟨wi.heap.size, 1, none⟩ = some (.int .i64 d) := (Bb_63.cell 1).trans rfl
          have b_63_f1 := Bb_63.frozen 1
          have s_63_z : s61.heap.size < s63.heap.size := Bs_63.lt
          have s_63_c0 : s63.cell? ⟨s61.heap.size, 0, none⟩ = some (.int .i64 n1) := (Bs_63.cell 0).trans rfl
          have s_63_f0 := Bs_63.frozen 0
          have s_63_c1 : s63.cell? ⟨s61.heap.size, 1, none⟩ = some (.int .i64 d1) := (Bs_63.cell 1).trans rfl
          have s_63_f1 := Bs_63.frozen 1
          go_wp2_with fail
          refine (H4.out _).mono ?_; rintro e s64 ⟨rfl, hb64⟩
          have st64 := bl_step (bl_alloc (Below.refl _ _) _) hb64
          have bl64 := bl_step bl63 st64
          have Bp_64 : Blk s64 (s63.heap.size) 23 #[.int .i64 n2, .int .i64 d2] := (Blk.new _ _ _).below hb64
          clear a_63_z a_63_c0 a_63_f0 a_63_c1 a_63_f1
          have Ba_64 := Ba_63.below st64
          clear b_63_z b_63_c0 b_63_f0 b_63_c1 b_63_f1
          have Bb_64 := Bb_63.below st64
          clear s_63_z s_63_c0 s_63_f0 s_63_c1 s_63_f1
          have Bs_64 := Bs_63.below st64
          have a_64_z : wo.heap.size < s64.heap.size := Ba_64.lt
          have a_64_c0 : s64.cell? ⟨wo.heap.size, 0, none⟩ = some (.int .i64 a) := (Ba_64.cell 0).trans rfl
          have a_64_f0 := Ba_64.frozen 0
          have a_64_c1 : s64.cell? ⟨wo.heap.size, 1, none⟩ = some (.int .i64 b) := (Ba_64.cell 1).trans rfl
          have a_64_f1 := Ba_64.frozen 1
          have b_64_z : wi.heap.size < s64.heap.size := Bb_64.lt
          have b_64_c0 : s64.cell? ⟨wi.heap.size, 0, none⟩ = some (.int .i64 c) := (Bb_64.cell 0).trans rfl
          have b_64_f0 := Bb_64.frozen 0
          have b_64_c1 : s64.cell? ⟨wi.heap.size, 1, none⟩ = some (.int .i64 d) := (Bb_64.cell 1).trans rfl
          have b_64_f1 := Bb_64.frozen 1
          have s_64_z : s61.heap.size < s64.heap.size := Bs_64.lt
          have s_64_c0 : s64.cell? ⟨s61.heap.size, 0, none⟩ = some (.int .i64 n1) := (Bs_64.cell 0).trans rfl
          have s_64_f0 := Bs_64.frozen 0
          have s_64_c1 : s64.cell? ⟨s61.heap.size, 1, none⟩ = some (.int .i64 d1) := (Bs_64.cell 1).trans rfl
          have s_64_f1 := Bs_64.frozen 1
          have p_64_z : s63.heap.size < s64.heap.size := Bp_64.lt
          have p_64_c0 : s64.cell? ⟨s63.heap.size, 0, none⟩ = some (.int .i64 n2) := (Bp_64.cell 0).trans rfl
          have p_64_f0 := Bp_64.frozen 0
          have p_64_c1 : s64.cell? ⟨s63.heap.size, 1, none⟩ = some (.int .i64 d2) := (Bp_64.cell 1).trans rfl
          have p_64_f1 := Bp_64.frozen 1
          cases x1 <;> cases x2
          all_goals
            go_wp2_with fail
            refine (H5.out _).mono ?_; rintro e s65 ⟨rfl, hb65⟩
            have st65 := bl_step (Below.refl _ _) hb65
            have bl65 := bl_step bl64 st65
            clear a_64_z a_64_c0 a_64_f0 a_64_c1 a_64_f1
            have Ba_65 := Ba_64.below st65
            clear b_64_z b_64_c0 b_64_f0 b_64_c1 b_64_f1
            have Bb_65 := Bb_64.below st65
            clear s_64_z s_64_c0 s_64_f0 s_64_c1 s_64_f1
            have Bs_65 := Bs_64.below st65
            clear p_64_z p_64_c0 p_64_f0 p_64_c1 p_64_f1
            have Bp_65 := Bp_64.below st65
            have a_65_z : wo.heap.size < s65.heap.size := Ba_65.lt
            have a_65_c0 : s65.cell? ⟨wo.heap.size, 0, none⟩ = some (.int .i64 a) := (Ba_65.cell 0).trans rfl
            have a_65_f0 := Ba_65.frozen 0
            have a_65_c1 : s65.cell? ⟨wo.heap.size, 1, none⟩ = some (.int .i64 b) := (Ba_65.cell 1).trans rfl
            have a_65_f1 := Ba_65.frozen 1
            have b_65_z : wi.heap.size < s65.heap.size := Bb_65.lt
            have b_65_c0 : s65.cell? ⟨wi.heap.size, 0, none⟩ = some (.int .i64 c) := (Bb_65.cell 0).trans rfl
            have b_65_f0 := Bb_65.frozen 0
            have b_65_c1 : s65.cell? ⟨wi.heap.size, 1, none⟩ = some (.int .i64 d) := (Bb_65.cell 1).trans rfl
            have b_65_f1 := Bb_65.frozen 1
            have s_65_z : s61.heap.size < s65.heap.size := Bs_65.lt
            have s_65_c0 : s65.cell? ⟨s61.heap.size, 0, none⟩ = some (.int .i64 n1) := (Bs_65.cell 0).trans rfl
            have s_65_f0 := Bs_65.frozen 0
            have s_65_c1 : s65.cell? ⟨s61.heap.size, 1, none⟩ = some (.int .i64 d1) := (Bs_65.cell 1).trans rfl
            have s_65_f1 := Bs_65.frozen 1
            have p_65_z : s63.heap.size < s65.heap.size := Bp_65.lt
            have p_65_c0 : s65.cell? ⟨s63.heap.size, 0, none⟩ = some (.int .i64 n2) := (Bp_65.cell 0).trans rfl
            have p_65_f0 := Bp_65.frozen 0
            have p_65_c1 : s65.cell? ⟨s63.heap.size, 1, none⟩ = some (.int .i64 d2) := (Bp_65.cell 1).trans rfl
            have p_65_f1 := Bp_65.frozen 1
            have blx := bl_step be2 bl65
            cases x3
            all_goals
              try (have h3 := HA.out rfl rfl; obtain ⟨rfl, rfl⟩ := h3)
              go_wp2_with fail
              go_roundw
              case rel => exact ⟨j + 1, by go_num, by omega, bl_alloc blx _⟩
              case measure => simp only [intOf]; omega
        · go_wp2_with fail
          go_roundw
          case rel => exact ⟨i + 1, by go_num, by omega, bl_step be (bl_step bl51 be2)⟩
          case measure => simp only [intOf]; omega
    · go_wp2_with fail
      refine (HW.out _ blo).mono ?_; rintro e q1 ⟨rfl, hq1⟩
      have blq := bl_step blo hq1
      go_wp2
      go_ret
      exact ⟨rfl, blq⟩
end Go.Proofs.YtkdklmkcanjjfaaDoor
