/- The walk of RatioBack: a ratio rounded down is not above it, and not a whole one below; up likewise; sums and products may be taken in any order; a sum of two of whole numbers is theirs. -/
import Derived.Test.YtkdklmkcanjjfaaDoorRatG
import Derived.Test.YtkdklmkcanjjfaaDoorRatLaw
namespace Go.Proofs.YtkdklmkcanjjfaaDoor
open Go.RowKit
set_option linter.unusedVariables false
set_option linter.unusedSimpArgs false
set_option maxRecDepth 100000

theorem prod32 {a b : Int} (a1 : -2147483648 ≤ a) (a2 : a ≤ 2147483647) (b1 : -2147483648 ≤ b) (b2 : b ≤ 2147483647) : -4611686018427387904 ≤ a * b ∧ a * b ≤ 4611686018427387904 := by
  have h := Int.natAbs_mul a b
  have h1 : a.natAbs ≤ 2147483648 := by omega
  have h2 : b.natAbs ≤ 2147483648 := by omega
  have h3 := Nat.mul_le_mul h1 h2
  omega
set_option maxHeartbeats 12800000 in
theorem RatioBack_walk (x0 x1 y0 y1 z0 z1 : Int) (w : World) (hw : RatW w) (i0 : InI x0) (i1 : InI x1) (j0 : InI y0) (j1 : InI y1) (k0 : -2147483648 ≤ z0 ∧ z0 ≤ 2147483647) (k1 : -2147483648 ≤ z1 ∧ z1 ≤ 2147483647) :
    Calls Tryd.prog 7 #[.agg #[.int .i64 x0, .int .i64 x1], .agg #[.int .i64 y0, .int .i64 y1], .agg #[.int .i32 z0, .int .i32 z1]] w fun e w' => e = .returned (.bool true) ∧ Below w.heap.size w w' := by
  have HX := Lib.hid (fun w => some_any x0 x1 w i0 i1)
  have HY := Lib.hid (fun w => some_any y0 y1 w j0 j1)
  have HW := Lib.hid (fun w' (hb : Below w.heap.size w w') => wakes2_any w' (hw.below hb))
  have HL := Lib.hid (rsOf_len x0 x1)
  have HI := Lib.hid (rsOf_in i0 i1)
  have HM := Lib.hid (rsOf_len y0 y1)
  have HJ := Lib.hid (rsOf_in j0 j1)
  generalize rsOf x0 x1 = rs at HX HL HI
  generalize rsOf y0 y1 = ss at HY HM HJ
  go_enter Tryd.func7, Tryd.ntmps7
  have bl0 := Below.refl w.heap.size w
  go_wp2_with fail
  have Nx_0 : Blk (((w.alloc (.cells #[.int .i64 x0, .int .i64 x1] 31)).alloc (.cells #[.int .i64 y0, .int .i64 y1] 31)).alloc (.cells #[.int .i32 z0, .int .i32 z1] 49)) (w.heap.size) 31 #[.int .i64 x0, .int .i64 x1] := (((Blk.new _ _ _).alloc _).alloc _)
  have Ny_0 : Blk (((w.alloc (.cells #[.int .i64 x0, .int .i64 x1] 31)).alloc (.cells #[.int .i64 y0, .int .i64 y1] 31)).alloc (.cells #[.int .i32 z0, .int .i32 z1] 49)) (w.heap.size + 1) 31 #[.int .i64 y0, .int .i64 y1] := ((Blk.new' (by simp) _ _).alloc _)
  have Nz_0 : Blk (((w.alloc (.cells #[.int .i64 x0, .int .i64 x1] 31)).alloc (.cells #[.int .i64 y0, .int .i64 y1] 31)).alloc (.cells #[.int .i32 z0, .int .i32 z1] 49)) (w.heap.size + 1 + 1) 49 #[.int .i32 z0, .int .i32 z1] := (Blk.new' (by simp) _ _)
  have bl0 := bl_alloc (bl_alloc (bl_alloc (bl0) (.cells #[.int .i64 x0, .int .i64 x1] 31)) (.cells #[.int .i64 y0, .int .i64 y1] 31)) (.cells #[.int .i32 z0, .int .i32 z1] 49)
  generalize ((w.alloc (.cells #[.int .i64 x0, .int .i64 x1] 31)).alloc (.cells #[.int .i64 y0, .int .i64 y1] 31)).alloc (.cells #[.int .i32 z0, .int .i32 z1] 49) = vw0 at Nx_0 Ny_0 Nz_0 bl0 ⊢
  have x_n0_z : w.heap.size < vw0.heap.size := Nx_0.lt
  have x_n0_c0 : vw0.cell? ⟨w.heap.size, 0, none⟩ = some (.int .i64 x0) := (Nx_0.cell 0).trans rfl
  have x_n0_f0 := Nx_0.frozen 0
  have x_n0_c1 : vw0.cell? ⟨w.heap.size, 1, none⟩ = some (.int .i64 x1) := (Nx_0.cell 1).trans rfl
  have x_n0_f1 := Nx_0.frozen 1
  have y_n0_z : w.heap.size + 1 < vw0.heap.size := Ny_0.lt
  have y_n0_c0 : vw0.cell? ⟨w.heap.size + 1, 0, none⟩ = some (.int .i64 y0) := (Ny_0.cell 0).trans rfl
  have y_n0_f0 := Ny_0.frozen 0
  have y_n0_c1 : vw0.cell? ⟨w.heap.size + 1, 1, none⟩ = some (.int .i64 y1) := (Ny_0.cell 1).trans rfl
  have y_n0_f1 := Ny_0.frozen 1
  have z_n0_z : w.heap.size + 1 + 1 < vw0.heap.size := Nz_0.lt
  have z_n0_c0 : vw0.cell? ⟨w.heap.size + 1 + 1, 0, none⟩ = some (.int .i32 z0) := (Nz_0.cell 0).trans rfl
  have z_n0_f0 := Nz_0.frozen 0
  have z_n0_c1 : vw0.cell? ⟨w.heap.size + 1 + 1, 1, none⟩ = some (.int .i32 z1) := (Nz_0.cell 1).trans rfl
  have z_n0_f1 := Nz_0.frozen 1
  go_quiet (skip)
  have Qx_0 := Nx_0.drewN nq
  clear x_n0_z x_n0_c0 x_n0_f0 x_n0_c1 x_n0_f1
  have Qy_0 := Ny_0.drewN nq
  clear y_n0_z y_n0_c0 y_n0_f0 y_n0_c1 y_n0_f1
  have Qz_0 := Nz_0.drewN nq
  clear z_n0_z z_n0_c0 z_n0_f0 z_n0_c1 z_n0_f1
  have bl0 := bl_drewN bl0 nq
  generalize vw0.drewN nq = vq0 at Qx_0 Qy_0 Qz_0 bl0 ⊢
  have x_q0_z : w.heap.size < vq0.heap.size := Qx_0.lt
  have x_q0_c0 : vq0.cell? ⟨w.heap.size, 0, none⟩ = some (.int .i64 x0) := (Qx_0.cell 0).trans rfl
  have x_q0_f0 := Qx_0.frozen 0
  have x_q0_c1 : vq0.cell? ⟨w.heap.size, 1, none⟩ = some (.int .i64 x1) := (Qx_0.cell 1).trans rfl
  have x_q0_f1 := Qx_0.frozen 1
  have y_q0_z : w.heap.size + 1 < vq0.heap.size := Qy_0.lt
  have y_q0_c0 : vq0.cell? ⟨w.heap.size + 1, 0, none⟩ = some (.int .i64 y0) := (Qy_0.cell 0).trans rfl
  have y_q0_f0 := Qy_0.frozen 0
  have y_q0_c1 : vq0.cell? ⟨w.heap.size + 1, 1, none⟩ = some (.int .i64 y1) := (Qy_0.cell 1).trans rfl
  have y_q0_f1 := Qy_0.frozen 1
  have z_q0_z : w.heap.size + 1 + 1 < vq0.heap.size := Qz_0.lt
  have z_q0_c0 : vq0.cell? ⟨w.heap.size + 1 + 1, 0, none⟩ = some (.int .i32 z0) := (Qz_0.cell 0).trans rfl
  have z_q0_f0 := Qz_0.frozen 0
  have z_q0_c1 : vq0.cell? ⟨w.heap.size + 1 + 1, 1, none⟩ = some (.int .i32 z1) := (Qz_0.cell 1).trans rfl
  have z_q0_f1 := Qz_0.frozen 1
  go_wp2_with fail
  refine (HX.out _).mono ?_; rintro e v1 ⟨u1, rfl, hown1, hb1⟩; obtain ⟨g1, c1, rfl, hn1, hc1, hg1, hlo1, hr1⟩ := own_pairs hown1 HL.out.1
  have st1 := bl_step (Below.refl _ _) hb1
  have bl1 := bl_step bl0 st1
  clear x_q0_z x_q0_c0 x_q0_f0 x_q0_c1 x_q0_f1
  have Bx_1 := Qx_0.below st1
  clear y_q0_z y_q0_c0 y_q0_f0 y_q0_c1 y_q0_f1
  have By_1 := Qy_0.below st1
  clear z_q0_z z_q0_c0 z_q0_f0 z_q0_c1 z_q0_f1
  have Bz_1 := Qz_0.below st1
  have x_1_z : w.heap.size < v1.heap.size := Bx_1.lt
  have x_1_c0 : v1.cell? ⟨w.heap.size, 0, none⟩ = some (.int .i64 x0) := (Bx_1.cell 0).trans rfl
  have x_1_f0 := Bx_1.frozen 0
  have x_1_c1 : v1.cell? ⟨w.heap.size, 1, none⟩ = some (.int .i64 x1) := (Bx_1.cell 1).trans rfl
  have x_1_f1 := Bx_1.frozen 1
  have y_1_z : w.heap.size + 1 < v1.heap.size := By_1.lt
  have y_1_c0 : v1.cell? ⟨w.heap.size + 1, 0, none⟩ = some (.int .i64 y0) := (By_1.cell 0).trans rfl
  have y_1_f0 := By_1.frozen 0
  have y_1_c1 : v1.cell? ⟨w.heap.size + 1, 1, none⟩ = some (.int .i64 y1) := (By_1.cell 1).trans rfl
  have y_1_f1 := By_1.frozen 1
  have z_1_z : w.heap.size + 1 + 1 < v1.heap.size := Bz_1.lt
  have z_1_c0 : v1.cell? ⟨w.heap.size + 1 + 1, 0, none⟩ = some (.int .i32 z0) := (Bz_1.cell 0).trans rfl
  have z_1_f0 := Bz_1.frozen 0
  have z_1_c1 : v1.cell? ⟨w.heap.size + 1 + 1, 1, none⟩ = some (.int .i32 z1) := (Bz_1.cell 1).trans rfl
  have z_1_f1 := Bz_1.frozen 1
  have HR1 := Lib.hid hr1
  clear hr1 x_1_z x_1_c0 x_1_f0 x_1_c1 x_1_f1 y_1_z y_1_c0 y_1_f0 y_1_c1 y_1_f1
  have hl2 := HL.out.2
  go_wp2_with fail
  go_loopw [34] (fun vi wr => ∃ i : Nat, vi = .int .i64 i ∧ i ≤ rs.length ∧ Below v1.heap.size v1 wr) (fun vi _ => rs.length - (intOf vi).toNat)
  case atStart => exact ⟨0, rfl, Nat.zero_le _, Below.refl _ _⟩
  case round =>
    obtain ⟨i, rfl, hi, be⟩ := hrel
    generalize wr = wo at be ⊢
    have blo := bl_step bl1 be
    by_cases hlt : i < rs.length
    · obtain ⟨⟨a, b⟩, hp⟩ : ∃ p, rs[i]? = some p := ⟨_, List.getElem?_eq_getElem hlt⟩
      have hin := HI.out _ (List.mem_of_getElem? hp)
      have cA : wo.cell? ⟨g1, i * 2, none⟩ = some (.int .i64 a) := (be.cell hg1).trans (HR1.out i _ hp).1
      have cB : wo.cell? ⟨g1, i * 2 + 1, none⟩ = some (.int .i64 b) := (be.cell hg1).trans (HR1.out i _ hp).2
      have IA : Hid (InI a) := Lib.hid hin.1
      have IB : Hid (InI b) := Lib.hid hin.2
      clear hp hin
      have y_o_z : w.heap.size + 1 < wo.heap.size := (By_1.below be).lt
      have y_o_c0 : wo.cell? ⟨w.heap.size + 1, 0, none⟩ = some (.int .i64 y0) := ((By_1.below be).cell 0).trans rfl
      have y_o_f0 := (By_1.below be).frozen 0
      have y_o_c1 : wo.cell? ⟨w.heap.size + 1, 1, none⟩ = some (.int .i64 y1) := ((By_1.below be).cell 1).trans rfl
      have y_o_f1 := (By_1.below be).frozen 1
      have bl50 : Below wo.heap.size wo wo := Below.refl _ _
      go_wp2_with fail
      refine (HY.out _).mono ?_; rintro e r51 ⟨u2, rfl, hown2, hb51⟩; obtain ⟨g2, c2, rfl, hn2, hc2, hg2, hlo2, hr2⟩ := own_pairs hown2 HM.out.1
      have st51 := bl_step (bl_alloc (Below.refl _ _) _) hb51
      have bl51 := bl_step bl50 st51
      have Ba_51 : Blk r51 (wo.heap.size) 23 #[.int .i64 a, .int .i64 b] := (Blk.new _ _ _).below hb51
      clear y_o_z y_o_c0 y_o_f0 y_o_c1 y_o_f1
      have By_51 := (By_1.below be).below st51
      have y_51_z : w.heap.size + 1 < r51.heap.size := By_51.lt
      have y_51_c0 : r51.cell? ⟨w.heap.size + 1, 0, none⟩ = some (.int .i64 y0) := (By_51.cell 0).trans rfl
      have y_51_f0 := By_51.frozen 0
      have y_51_c1 : r51.cell? ⟨w.heap.size + 1, 1, none⟩ = some (.int .i64 y1) := (By_51.cell 1).trans rfl
      have y_51_f1 := By_51.frozen 1
      have a_51_z : wo.heap.size < r51.heap.size := Ba_51.lt
      have a_51_c0 : r51.cell? ⟨wo.heap.size, 0, none⟩ = some (.int .i64 a) := (Ba_51.cell 0).trans rfl
      have a_51_f0 := Ba_51.frozen 0
      have a_51_c1 : r51.cell? ⟨wo.heap.size, 1, none⟩ = some (.int .i64 b) := (Ba_51.cell 1).trans rfl
      have a_51_f1 := Ba_51.frozen 1
      have HR2 := Lib.hid hr2
      clear hr2 a_51_z a_51_c0 a_51_f0 a_51_c1 a_51_f1 y_51_z y_51_c0 y_51_f0 y_51_c1 y_51_f1
      have hm2 := HM.out.2
      go_wp2_with fail
      go_loopw [41] (fun vj wr => ∃ j : Nat, vj = .int .i64 j ∧ j ≤ ss.length ∧ Below r51.heap.size r51 wr) (fun vj _ => ss.length - (intOf vj).toNat)
      case atStart => exact ⟨0, rfl, Nat.zero_le _, Below.refl _ _⟩
      case round =>
        obtain ⟨j, rfl, hj, be2⟩ := hrel
        generalize wr = wi at be2 ⊢
        have bli := bl_step bl51 be2
        by_cases hlt2 : j < ss.length
        · obtain ⟨⟨c, d⟩, hq⟩ : ∃ p, ss[j]? = some p := ⟨_, List.getElem?_eq_getElem hlt2⟩
          have hin := HJ.out _ (List.mem_of_getElem? hq)
          have cC : wi.cell? ⟨g2, j * 2, none⟩ = some (.int .i64 c) := (be2.cell hg2).trans (HR2.out j _ hq).1
          have cD : wi.cell? ⟨g2, j * 2 + 1, none⟩ = some (.int .i64 d) := (be2.cell hg2).trans (HR2.out j _ hq).2
          have IC : Hid (InI c) := Lib.hid hin.1
          have ID : Hid (InI d) := Lib.hid hin.2
          clear hq hin
          have H1 := Lib.hid (fun w => radd_any a b c d w IA.out IB.out IC.out ID.out)
          have H2 := Lib.hid (fun w => radd_any c d a b w IC.out ID.out IA.out IB.out)
          have H3 := Lib.hid (fun w => rmul_any a b c d w IA.out IB.out IC.out ID.out)
          have H4 := Lib.hid (fun w => rmul_any c d a b w IC.out ID.out IA.out IB.out)
          have H5 := Lib.hid (fun w => rcmp_any a b c d w IA.out IB.out IC.out ID.out)
          have H6 := Lib.hid (fun w => rcmp_any c d a b w IC.out ID.out IA.out IB.out)
          rw [← (add_turn a b c d).1, ← (add_turn a b c d).2.1, ← (add_turn a b c d).2.2] at H2
          rw [← (mul_turn a b c d).1, ← (mul_turn a b c d).2.1, ← (mul_turn a b c d).2.2] at H4
          rw [cmp_turn a b c d] at H5
          have hbd := cmpR_bd c d a b
          generalize cmpR c d a b = r at H5 H6 hbd
          obtain ⟨r1, r2⟩ := hbd
          have hwr : IntKind.i64.wrap (-r) = -r := wrap_id ⟨by omega, by omega⟩
          generalize addN a b c d = n1 at H1 H2
          generalize addD a b c d = d1 at H1 H2
          generalize addB a b c d = x1 at H1 H2
          generalize mulN a b c d = n2 at H3 H4
          generalize mulD a b c d = d2 at H3 H4
          generalize mulB a b c d = x2 at H3 H4
          have bl60 : Below wi.heap.size wi wi := Below.refl _ _
          have a_i_z : wo.heap.size < wi.heap.size := (Ba_51.below be2).lt
          have a_i_c0 : wi.cell? ⟨wo.heap.size, 0, none⟩ = some (.int .i64 a) := ((Ba_51.below be2).cell 0).trans rfl
          have a_i_f0 := (Ba_51.below be2).frozen 0
          have a_i_c1 : wi.cell? ⟨wo.heap.size, 1, none⟩ = some (.int .i64 b) := ((Ba_51.below be2).cell 1).trans rfl
          have a_i_f1 := (Ba_51.below be2).frozen 1
          go_wp2_with fail
          refine (H1.out _).mono ?_; rintro e s61 ⟨rfl, hb61⟩
          have st61 := bl_step (bl_alloc (Below.refl _ _) _) hb61
          have bl61 := bl_step bl60 st61
          have Bb_61 : Blk s61 (wi.heap.size) 23 #[.int .i64 c, .int .i64 d] := (Blk.new _ _ _).below hb61
          clear a_i_z a_i_c0 a_i_f0 a_i_c1 a_i_f1
          have Ba_61 := (Ba_51.below be2).below st61
          have a_61_z : wo.heap.size < s61.heap.size := Ba_61.lt
          have a_61_c0 : s61.cell? ⟨wo.heap.size, 0, none⟩ = some (.int .i64 a) := (Ba_61.cell 0).trans rfl
          have a_61_f0 := Ba_61.frozen 0
          have a_61_c1 : s61.cell? ⟨wo.heap.size, 1, none⟩ = some (.int .i64 b) := (Ba_61.cell 1).trans rfl
          have a_61_f1 := Ba_61.frozen 1
          have b_61_z : wi.heap.size < s61.heap.size := Bb_61.lt
          have b_61_c0 : s61.cell? ⟨wi.heap.size, 0, none⟩ = some (.int .i64 c) := (Bb_61.cell 0).trans rfl
          have b_61_f0 := Bb_61.frozen 0
          have b_61_c1 : s61.cell? ⟨wi.heap.size, 1, none⟩ = some (.int .i64 d) := (Bb_61.cell 1).trans rfl
          have b_61_f1 := Bb_61.frozen 1
          go_wp2_with fail
          refine (H2.out _).mono ?_; rintro e s62 ⟨rfl, hb62⟩
          have st62 := bl_step (bl_alloc (Below.refl _ _) _) hb62
          have bl62 := bl_step bl61 st62
          have Bs_62 : Blk s62 (s61.heap.size) 23 #[.int .i64 n1, .int .i64 d1] := (Blk.new _ _ _).below hb62
          clear a_61_z a_61_c0 a_61_f0 a_61_c1 a_61_f1
          have Ba_62 := Ba_61.below st62
          clear b_61_z b_61_c0 b_61_f0 b_61_c1 b_61_f1
          have Bb_62 := Bb_61.below st62
          have a_62_z : wo.heap.size < s62.heap.size := Ba_62.lt
          have a_62_c0 : s62.cell? ⟨wo.heap.size, 0, none⟩ = some (.int .i64 a) := (Ba_62.cell 0).trans rfl
          have a_62_f0 := Ba_62.frozen 0
          have a_62_c1 : s62.cell? ⟨wo.heap.size, 1, none⟩ = some (.int .i64 b) := (Ba_62.cell 1).trans rfl
          have a_62_f1 := Ba_62.frozen 1
          have b_62_z : wi.heap.size < s62.heap.size := Bb_62.lt
          have b_62_c0 : s62.cell? ⟨wi.heap.size, 0, none⟩ = some (.int .i64 c) := (Bb_62.cell 0).trans rfl
          have b_62_f0 := Bb_62.frozen 0
          have b_62_c1 : s62.cell? ⟨wi.heap.size, 1, none⟩ = some (.int .i64 d) := (Bb_62.cell 1).trans rfl
          have b_62_f1 := Bb_62.frozen 1
          have s_62_z : s61.heap.size < s62.heap.size := Bs_62.lt
          have s_62_c0 : s62.cell? ⟨s61.heap.size, 0, none⟩ = some (.int .i64 n1) := (Bs_62.cell 0).trans rfl
          have s_62_f0 := Bs_62.frozen 0
          have s_62_c1 : s62.cell? ⟨s61.heap.size, 1, none⟩ = some (.int .i64 d1) := (Bs_62.cell 1).trans rfl
          have s_62_f1 := Bs_62.frozen 1
          go_wp2_with fail
          refine (H3.out _).mono ?_; rintro e s63 ⟨rfl, hb63⟩
          have st63 := bl_step (bl_alloc (Below.refl _ _) _) hb63
          have bl63 := bl_step bl62 st63
          have Bt_63 : Blk s63 (s62.heap.size) 23 #[.int .i64 n1, .int .i64 d1] := (Blk.new _ _ _).below hb63
          clear a_62_z a_62_c0 a_62_f0 a_62_c1 a_62_f1
          have Ba_63 := Ba_62.below st63
          clear b_62_z b_62_c0 b_62_f0 b_62_c1 b_62_f1
          have Bb_63 := Bb_62.below st63
          clear s_62_z s_62_c0 s_62_f0 s_62_c1 s_62_f1
          have Bs_63 := Bs_62.below st63
          have a_63_z : wo.heap.size < s63.heap.size := Ba_63.lt
          have a_63_c0 : s63.cell? ⟨wo.heap.size, 0, none⟩ = some (.int .i64 a) := (Ba_63.cell 0).trans rfl
          have a_63_f0 := Ba_63.frozen 0
          have a_63_c1 : s63.cell? ⟨wo.heap.size, 1, none⟩ = some (.int .i64 b) := (Ba_63.cell 1).trans rfl
          have a_63_f1 := Ba_63.frozen 1
          have b_63_z : wi.heap.size < s63.heap.size := Bb_63.lt
          have b_63_c0 : s63.cell? ⟨wi.heap.size, 0, none⟩ = some (.int .i64 c) := (Bb_63.cell 0).trans rfl
          have b_63_f0 := Bb_63.frozen 0
          have b_63_c1 : s63.cell? ⟨wi.heap.size, 1, none⟩ = some (.int .i64 d) := (Bb_63.cell 1).trans rfl
          have b_63_f1 := Bb_63.frozen 1
          have s_63_z : s61.heap.size < s63.heap.size := Bs_63.lt
          have s_63_c0 : s63.cell? ⟨s61.heap.size, 0, none⟩ = some (.int .i64 n1) := (Bs_63.cell 0).trans rfl
          have s_63_f0 := Bs_63.frozen 0
          have s_63_c1 : s63.cell? ⟨s61.heap.size, 1, none⟩ = some (.int .i64 d1) := (Bs_63.cell 1).trans rfl
          have s_63_f1 := Bs_63.frozen 1
          have t_63_z : s62.heap.size < s63.heap.size := Bt_63.lt
          have t_63_c0 : s63.cell? ⟨s62.heap.size, 0, none⟩ = some (.int .i64 n1) := (Bt_63.cell 0).trans rfl
          have t_63_f0 := Bt_63.frozen 0
          have t_63_c1 : s63.cell? ⟨s62.heap.size, 1, none⟩ = some (.int .i64 d1) := (Bt_63.cell 1).trans rfl
          have t_63_f1 := Bt_63.frozen 1
          go_wp2_with fail
          refine (H4.out _).mono ?_; rintro e s64 ⟨rfl, hb64⟩
          have st64 := bl_step (bl_alloc (Below.refl _ _) _) hb64
          have bl64 := bl_step bl63 st64
          have Bp_64 : Blk s64 (s63.heap.size) 23 #[.int .i64 n2, .int .i64 d2] := (Blk.new _ _ _).below hb64
          clear a_63_z a_63_c0 a_63_f0 a_63_c1 a_63_f1
          have Ba_64 := Ba_63.below st64
          clear b_63_z b_63_c0 b_63_f0 b_63_c1 b_63_f1
          have Bb_64 := Bb_63.below st64
          clear s_63_z s_63_c0 s_63_f0 s_63_c1 s_63_f1
          have Bs_64 := Bs_63.below st64
          clear t_63_z t_63_c0 t_63_f0 t_63_c1 t_63_f1
          have Bt_64 := Bt_63.below st64
          have a_64_z : wo.heap.size < s64.heap.size := Ba_64.lt
          have a_64_c0 : s64.cell? ⟨wo.heap.size, 0, none⟩ = some (.int .i64 a) := (Ba_64.cell 0).trans rfl
          have a_64_f0 := Ba_64.frozen 0
          have a_64_c1 : s64.cell? ⟨wo.heap.size, 1, none⟩ = some (.int .i64 b) := (Ba_64.cell 1).trans rfl
          have a_64_f1 := Ba_64.frozen 1
          have b_64_z : wi.heap.size < s64.heap.size := Bb_64.lt
          have b_64_c0 : s64.cell? ⟨wi.heap.size, 0, none⟩ = some (.int .i64 c) := (Bb_64.cell 0).trans rfl
          have b_64_f0 := Bb_64.frozen 0
          have b_64_c1 : s64.cell? ⟨wi.heap.size, 1, none⟩ = some (.int .i64 d) := (Bb_64.cell 1).trans rfl
          have b_64_f1 := Bb_64.frozen 1
          have s_64_z : s61.heap.size < s64.heap.size := Bs_64.lt
          have s_64_c0 : s64.cell? ⟨s61.heap.size, 0, none⟩ = some (.int .i64 n1) := (Bs_64.cell 0).trans rfl
          have s_64_f0 := Bs_64.frozen 0
          have s_64_c1 : s64.cell? ⟨s61.heap.size, 1, none⟩ = some (.int .i64 d1) := (Bs_64.cell 1).trans rfl
          have s_64_f1 := Bs_64.frozen 1
          have t_64_z : s62.heap.size < s64.heap.size := Bt_64.lt
          have t_64_c0 : s64.cell? ⟨s62.heap.size, 0, none⟩ = some (.int .i64 n1) := (Bt_64.cell 0).trans rfl
          have t_64_f0 := Bt_64.frozen 0
          have t_64_c1 : s64.cell? ⟨s62.heap.size, 1, none⟩ = some (.int .i64 d1) := (Bt_64.cell 1).trans rfl
          have t_64_f1 := Bt_64.frozen 1
          have p_64_z : s63.heap.size < s64.heap.size := Bp_64.lt
          have p_64_c0 : s64.cell? ⟨s63.heap.size, 0, none⟩ = some (.int .i64 n2) := (Bp_64.cell 0).trans rfl
          have p_64_f0 := Bp_64.frozen 0
          have p_64_c1 : s64.cell? ⟨s63.heap.size, 1, none⟩ = some (.int .i64 d2) := (Bp_64.cell 1).trans rfl
          have p_64_f1 := Bp_64.frozen 1
          go_wp2_with fail
          have Na_64 : Blk (s64.alloc (.cells #[.int .i64 n2, .int .i64 d2] 23)) (wo.heap.size) 23 #[.int .i64 a, .int .i64 b] := (Ba_64.alloc _)
          clear a_64_z a_64_c0 a_64_f0 a_64_c1 a_64_f1
          have Nb_64 : Blk (s64.alloc (.cells #[.int .i64 n2, .int .i64 d2] 23)) (wi.heap.size) 23 #[.int .i64 c, .int .i64 d] := (Bb_64.alloc _)
          clear b_64_z b_64_c0 b_64_f0 b_64_c1 b_64_f1
          have Ns_64 : Blk (s64.alloc (.cells #[.int .i64 n2, .int .i64 d2] 23)) (s61.heap.size) 23 #[.int .i64 n1, .int .i64 d1] := (Bs_64.alloc _)
          clear s_64_z s_64_c0 s_64_f0 s_64_c1 s_64_f1
          have Nt_64 : Blk (s64.alloc (.cells #[.int .i64 n2, .int .i64 d2] 23)) (s62.heap.size) 23 #[.int .i64 n1, .int .i64 d1] := (Bt_64.alloc _)
          clear t_64_z t_64_c0 t_64_f0 t_64_c1 t_64_f1
          have Np_64 : Blk (s64.alloc (.cells #[.int .i64 n2, .int .i64 d2] 23)) (s63.heap.size) 23 #[.int .i64 n2, .int .i64 d2] := (Bp_64.alloc _)
          clear p_64_z p_64_c0 p_64_f0 p_64_c1 p_64_f1
          have Nq_64 : Blk (s64.alloc (.cells #[.int .i64 n2, .int .i64 d2] 23)) (s64.heap.size) 23 #[.int .i64 n2, .int .i64 d2] := (Blk.new _ _ _)
          have bl64 := bl_alloc (bl64) (.cells #[.int .i64 n2, .int .i64 d2] 23)
          generalize s64.alloc (.cells #[.int .i64 n2, .int .i64 d2] 23) = sw64 at Na_64 Nb_64 Ns_64 Nt_64 Np_64 Nq_64 bl64 ⊢
          have a_n64_z : wo.heap.size < sw64.heap.size := Na_64.lt
          have a_n64_c0 : sw64.cell? ⟨wo.heap.size, 0, none⟩ = some (.int .i64 a) := (Na_64.cell 0).trans rfl
          have a_n64_f0 := Na_64.frozen 0
          have a_n64_c1 : sw64.cell? ⟨wo.heap.size, 1, none⟩ = some (.int .i64 b) := (Na_64.cell 1).trans rfl
          have a_n64_f1 := Na_64.frozen 1
          have b_n64_z : wi.heap.size < sw64.heap.size := Nb_64.lt
          have b_n64_c0 : sw64.cell? ⟨wi.heap.size, 0, none⟩ = some (.int .i64 c) := (Nb_64.cell 0).trans rfl
          have b_n64_f0 := Nb_64.frozen 0
          have b_n64_c1 : sw64.cell? ⟨wi.heap.size, 1, none⟩ = some (.int .i64 d) := (Nb_64.cell 1).trans rfl
          have b_n64_f1 := Nb_64.frozen 1
          have s_n64_z : s61.heap.size < sw64.heap.size := Ns_64.lt
          have s_n64_c0 : sw64.cell? ⟨s61.heap.size, 0, none⟩ = some (.int .i64 n1) := (Ns_64.cell 0).trans rfl
          have s_n64_f0 := Ns_64.frozen 0
          have s_n64_c1 : sw64.cell? ⟨s61.heap.size, 1, none⟩ = some (.int .i64 d1) := (Ns_64.cell 1).trans rfl
          have s_n64_f1 := Ns_64.frozen 1
          have t_n64_z : s62.heap.size < sw64.heap.size := Nt_64.lt
          have t_n64_c0 : sw64.cell? ⟨s62.heap.size, 0, none⟩ = some (.int .i64 n1) := (Nt_64.cell 0).trans rfl
          have t_n64_f0 := Nt_64.frozen 0
          have t_n64_c1 : sw64.cell? ⟨s62.heap.size, 1, none⟩ = some (.int .i64 d1) := (Nt_64.cell 1).trans rfl
          have t_n64_f1 := Nt_64.frozen 1
          have p_n64_z : s63.heap.size < sw64.heap.size := Np_64.lt
          have p_n64_c0 : sw64.cell? ⟨s63.heap.size, 0, none⟩ = some (.int .i64 n2) := (Np_64.cell 0).trans rfl
          have p_n64_f0 := Np_64.frozen 0
          have p_n64_c1 : sw64.cell? ⟨s63.heap.size, 1, none⟩ = some (.int .i64 d2) := (Np_64.cell 1).trans rfl
          have p_n64_f1 := Np_64.frozen 1
          have q_n64_z : s64.heap.size < sw64.heap.size := Nq_64.lt
          have q_n64_c0 : sw64.cell? ⟨s64.heap.size, 0, none⟩ = some (.int .i64 n2) := (Nq_64.cell 0).trans rfl
          have q_n64_f0 := Nq_64.frozen 0
          have q_n64_c1 : sw64.cell? ⟨s64.heap.size, 1, none⟩ = some (.int .i64 d2) := (Nq_64.cell 1).trans rfl
          have q_n64_f1 := Nq_64.frozen 1
          go_region_held3 (fun w' => w'.cell? ⟨wo.heap.size, 0, none⟩ = some (.int .i64 a) ∧ w'.cell? ⟨wo.heap.size, 1, none⟩ = some (.int .i64 b) ∧ w'.cell? ⟨wi.heap.size, 0, none⟩ = some (.int .i64 c) ∧ w'.cell? ⟨wi.heap.size, 1, none⟩ = some (.int .i64 d) ∧ w'.cell? ⟨s61.heap.size, 0, none⟩ = some (.int .i64 n1) ∧ w'.cell? ⟨s61.heap.size, 1, none⟩ = some (.int .i64 d1) ∧ w'.cell? ⟨s62.heap.size, 0, none⟩ = some (.int .i64 n1) ∧ w'.cell? ⟨s62.heap.size, 1, none⟩ = some (.int .i64 d1) ∧ w'.cell? ⟨s63.heap.size, 0, none⟩ = some (.int .i64 n2) ∧ w'.cell? ⟨s63.heap.size, 1, none⟩ = some (.int .i64 d2) ∧ w'.cell? ⟨s64.heap.size, 0, none⟩ = some (.int .i64 n2) ∧ w'.cell? ⟨s64.heap.size, 1, none⟩ = some (.int .i64 d2)) (go_keep) (first | (go_at_call 22; with_reducible refine (H5.out _).mono ?_; rintro e s65 ⟨rfl, hb65⟩; have st65 := bl_step (bl_drew (Below.refl _ _)) hb65; have bl65 := bl_step bl64 st65; have Ba_65 := Na_64.below st65; clear a_n64_z a_n64_c0 a_n64_f0 a_n64_c1 a_n64_f1; have a_65_z : wo.heap.size < s65.heap.size := Ba_65.lt; have a_65_c0 : s65.cell? ⟨wo.heap.size, 0, none⟩ = some (.int .i64 a) := (Ba_65.cell 0).trans rfl; have a_65_f0 := Ba_65.frozen 0; have a_65_c1 : s65.cell? ⟨wo.heap.size, 1, none⟩ = some (.int .i64 b) := (Ba_65.cell 1).trans rfl; have a_65_f1 := Ba_65.frozen 1; have Bb_65 := Nb_64.below st65; clear b_n64_z b_n64_c0 b_n64_f0 b_n64_c1 b_n64_f1; have b_65_z : wi.heap.size < s65.heap.size := Bb_65.lt; have b_65_c0 : s65.cell? ⟨wi.heap.size, 0, none⟩ = some (.int .i64 c) := (Bb_65.cell 0).trans rfl; have b_65_f0 := Bb_65.frozen 0; have b_65_c1 : s65.cell? ⟨wi.heap.size, 1, none⟩ = some (.int .i64 d) := (Bb_65.cell 1).trans rfl; have b_65_f1 := Bb_65.frozen 1; have Bs_65 := Ns_64.below st65; clear s_n64_z s_n64_c0 s_n64_f0 s_n64_c1 s_n64_f1; have s_65_z : s61.heap.size < s65.heap.size := Bs_65.lt; have s_65_c0 : s65.cell? ⟨s61.heap.size, 0, none⟩ = some (.int .i64 n1) := (Bs_65.cell 0).trans rfl; have s_65_f0 := Bs_65.frozen 0; have s_65_c1 : s65.cell? ⟨s61.heap.size, 1, none⟩ = some (.int .i64 d1) := (Bs_65.cell 1).trans rfl; have s_65_f1 := Bs_65.frozen 1; have Bt_65 := Nt_64.below st65; clear t_n64_z t_n64_c0 t_n64_f0 t_n64_c1 t_n64_f1; have t_65_z : s62.heap.size < s65.heap.size := Bt_65.lt; have t_65_c0 : s65.cell? ⟨s62.heap.size, 0, none⟩ = some (.int .i64 n1) := (Bt_65.cell 0).trans rfl; have t_65_f0 := Bt_65.frozen 0; have t_65_c1 : s65.cell? ⟨s62.heap.size, 1, none⟩ = some (.int .i64 d1) := (Bt_65.cell 1).trans rfl; have t_65_f1 := Bt_65.frozen 1; have Bp_65 := Np_64.below st65; clear p_n64_z p_n64_c0 p_n64_f0 p_n64_c1 p_n64_f1; have p_65_z : s63.heap.size < s65.heap.size := Bp_65.lt; have p_65_c0 : s65.cell? ⟨s63.heap.size, 0, none⟩ = some (.int .i64 n2) := (Bp_65.cell 0).trans rfl; have p_65_f0 := Bp_65.frozen 0; have p_65_c1 : s65.cell? ⟨s63.heap.size, 1, none⟩ = some (.int .i64 d2) := (Bp_65.cell 1).trans rfl; have p_65_f1 := Bp_65.frozen 1; have Bq_65 := Nq_64.below st65; clear q_n64_z q_n64_c0 q_n64_f0 q_n64_c1 q_n64_f1; have q_65_z : s64.heap.size < s65.heap.size := Bq_65.lt; have q_65_c0 : s65.cell? ⟨s64.heap.size, 0, none⟩ = some (.int .i64 n2) := (Bq_65.cell 0).trans rfl; have q_65_f0 := Bq_65.frozen 0; have q_65_c1 : s65.cell? ⟨s64.heap.size, 1, none⟩ = some (.int .i64 d2) := (Bq_65.cell 1).trans rfl; have q_65_f1 := Bq_65.frozen 1) | (go_at_call 22; with_reducible refine (H6.out _).mono ?_; rintro e s66 ⟨rfl, hb66⟩; have st66 := bl_step (Below.refl _ _) hb66; have bl66 := bl_step bl65 st66; have Ba_66 := Ba_65.below st66; clear a_65_z a_65_c0 a_65_f0 a_65_c1 a_65_f1; have a_66_z : wo.heap.size < s66.heap.size := Ba_66.lt; have a_66_c0 : s66.cell? ⟨wo.heap.size, 0, none⟩ = some (.int .i64 a) := (Ba_66.cell 0).trans rfl; have a_66_f0 := Ba_66.frozen 0; have a_66_c1 : s66.cell? ⟨wo.heap.size, 1, none⟩ = some (.int .i64 b) := (Ba_66.cell 1).trans rfl; have a_66_f1 := Ba_66.frozen 1; have Bb_66 := Bb_65.below st66; clear b_65_z b_65_c0 b_65_f0 b_65_c1 b_65_f1; have b_66_z : wi.heap.size < s66.heap.size := Bb_66.lt; have b_66_c0 : s66.cell? ⟨wi.heap.size, 0, none⟩ = some (.int .i64 c) := (Bb_66.cell 0).trans rfl; have b_66_f0 := Bb_66.frozen 0; have b_66_c1 : s66.cell? ⟨wi.heap.size, 1, none⟩ = some (.int .i64 d) := (Bb_66.cell 1).trans rfl; have b_66_f1 := Bb_66.frozen 1; have Bs_66 := Bs_65.below st66; clear s_65_z s_65_c0 s_65_f0 s_65_c1 s_65_f1; have s_66_z : s61.heap.size < s66.heap.size := Bs_66.lt; have s_66_c0 : s66.cell? ⟨s61.heap.size, 0, none⟩ = some (.int .i64 n1) := (Bs_66.cell 0).trans rfl; have s_66_f0 := Bs_66.frozen 0; have s_66_c1 : s66.cell? ⟨s61.heap.size, 1, none⟩ = some (.int .i64 d1) := (Bs_66.cell 1).trans rfl; have s_66_f1 := Bs_66.frozen 1; have Bt_66 := Bt_65.below st66; clear t_65_z t_65_c0 t_65_f0 t_65_c1 t_65_f1; have t_66_z : s62.heap.size < s66.heap.size := Bt_66.lt; have t_66_c0 : s66.cell? ⟨s62.heap.size, 0, none⟩ = some (.int .i64 n1) := (Bt_66.cell 0).trans rfl; have t_66_f0 := Bt_66.frozen 0; have t_66_c1 : s66.cell? ⟨s62.heap.size, 1, none⟩ = some (.int .i64 d1) := (Bt_66.cell 1).trans rfl; have t_66_f1 := Bt_66.frozen 1; have Bp_66 := Bp_65.below st66; clear p_65_z p_65_c0 p_65_f0 p_65_c1 p_65_f1; have p_66_z : s63.heap.size < s66.heap.size := Bp_66.lt; have p_66_c0 : s66.cell? ⟨s63.heap.size, 0, none⟩ = some (.int .i64 n2) := (Bp_66.cell 0).trans rfl; have p_66_f0 := Bp_66.frozen 0; have p_66_c1 : s66.cell? ⟨s63.heap.size, 1, none⟩ = some (.int .i64 d2) := (Bp_66.cell 1).trans rfl; have p_66_f1 := Bp_66.frozen 1; have Bq_66 := Bq_65.below st66; clear q_65_z q_65_c0 q_65_f0 q_65_c1 q_65_f1; have q_66_z : s64.heap.size < s66.heap.size := Bq_66.lt; have q_66_c0 : s66.cell? ⟨s64.heap.size, 0, none⟩ = some (.int .i64 n2) := (Bq_66.cell 0).trans rfl; have q_66_f0 := Bq_66.frozen 0; have q_66_c1 : s66.cell? ⟨s64.heap.size, 1, none⟩ = some (.int .i64 d2) := (Bq_66.cell 1).trans rfl; have q_66_f1 := Bq_66.frozen 1))
          have blx := bl_step be2 bl66
          go_wp2_with fail
          go_roundw
          case rel => exact ⟨j + 1, by go_num, by omega, blx⟩
          case measure => simp only [intOf]; omega
        · have HBA := Ba_51.below be2
          have HG := Lib.hid (fun w => good_any a b w IA.out IB.out)
          cases hgood : goodB a b
          · rw [hgood] at HG
            clear hgood
            have bl70 : Below wi.heap.size wi wi := Below.refl _ _
            have a_g_z : wo.heap.size < wi.heap.size := HBA.lt
            have a_g_c0 : wi.cell? ⟨wo.heap.size, 0, none⟩ = some (.int .i64 a) := (HBA.cell 0).trans rfl
            have a_g_f0 := HBA.frozen 0
            have a_g_c1 : wi.cell? ⟨wo.heap.size, 1, none⟩ = some (.int .i64 b) := (HBA.cell 1).trans rfl
            have a_g_f1 := HBA.frozen 1
            go_wp2_with fail
            refine (HG.out _).mono ?_; rintro e t71 ⟨rfl, hb71⟩
            have st71 := bl_step (Below.refl _ _) hb71
            have bl71 := bl_step bl70 st71
            clear a_g_z a_g_c0 a_g_f0 a_g_c1 a_g_f1
            have Ba_71 := HBA.below st71
            have a_71_z : wo.heap.size < t71.heap.size := Ba_71.lt
            have a_71_c0 : t71.cell? ⟨wo.heap.size, 0, none⟩ = some (.int .i64 a) := (Ba_71.cell 0).trans rfl
            have a_71_f0 := Ba_71.frozen 0
            have a_71_c1 : t71.cell? ⟨wo.heap.size, 1, none⟩ = some (.int .i64 b) := (Ba_71.cell 1).trans rfl
            have a_71_f1 := Ba_71.frozen 1
            go_wp2_with fail
            go_roundw
            case rel => exact ⟨i + 1, by go_num, by omega, bl_step be (bl_step bl51 (bl_step be2 bl71))⟩
            case measure => simp only [intOf]; omega
          · rw [hgood] at HG
            obtain ⟨k1, k2, k3, k4, k5, k6⟩ := whole_laws IA.out IB.out hgood
            clear hgood
            have F1 := Lib.hid (fun w => rfloor_any a b w IA.out IB.out)
            have F2 := Lib.hid (fun w => rceil_any a b w IA.out IB.out)
            generalize wholeR a b false = L at *
            generalize wholeR a b true = R at *
            have F3 := Lib.hid (fun w => rof_any L w)
            have F4 := Lib.hid (fun w => rcmp_any L 1 a b w k5 ⟨by omega, by omega⟩ IA.out IB.out)
            have F5 := Lib.hid (fun w => rof_any R w)
            have F6 := Lib.hid (fun w => rcmp_any R 1 a b w k6 ⟨by omega, by omega⟩ IA.out IB.out)
            generalize cmpR L 1 a b = u at *
            generalize cmpR R 1 a b = v at *
            obtain ⟨l1, l2⟩ := k5
            obtain ⟨l3, l4⟩ := k6
            have HK := Lib.hid k4
            have hu : decide (0 < u) = false := decide_eq_false (by omega)
            have hv : decide (v < 0) = false := decide_eq_false (by omega)
            have hu2 : (0 < u) = False := eq_false (by omega)
            have hv2 : (v < 0) = False := eq_false (by omega)
            clear k4
            by_cases hb1 : b = 1
            · subst hb1
              obtain rfl := k3.2 rfl
              clear k3
              have bl70 : Below wi.heap.size wi wi := Below.refl _ _
              have a_g_z : wo.heap.size < wi.heap.size := HBA.lt
              have a_g_c0 : wi.cell? ⟨wo.heap.size, 0, none⟩ = some (.int .i64 a) := (HBA.cell 0).trans rfl
              have a_g_f0 := HBA.frozen 0
              have a_g_c1 : wi.cell? ⟨wo.heap.size, 1, none⟩ = some (.int .i64 1) := (HBA.cell 1).trans rfl
              have a_g_f1 := HBA.frozen 1
              go_wp2_with fail
              refine (HG.out _).mono ?_; rintro e t71 ⟨rfl, hb71⟩
              have st71 := bl_step (Below.refl _ _) hb71
              have bl71 := bl_step bl70 st71
              clear a_g_z a_g_c0 a_g_f0 a_g_c1 a_g_f1
              have Ba_71 := HBA.below st71
              have a_71_z : wo.heap.size < t71.heap.size := Ba_71.lt
              have a_71_c0 : t71.cell? ⟨wo.heap.size, 0, none⟩ = some (.int .i64 a) := (Ba_71.cell 0).trans rfl
              have a_71_f0 := Ba_71.frozen 0
              have a_71_c1 : t71.cell? ⟨wo.heap.size, 1, none⟩ = some (.int .i64 1) := (Ba_71.cell 1).trans rfl
              have a_71_f1 := Ba_71.frozen 1
              go_wp2_with fail
              first | (go_region_held3 (fun w' => w'.cell? ⟨wo.heap.size, 0, none⟩ = some (.int .i64 a) ∧ w'.cell? ⟨wo.heap.size, 1, none⟩ = some (.int .i64 1)) (go_keep) (first | (go_at_call 24; with_reducible refine (F1.out _).mono ?_; rintro e t72 ⟨rfl, hb72⟩; have st72 := bl_step (bl_drew (Below.refl _ _)) hb72; have bl72 := bl_step bl71 st72; have Ba_72 := Ba_71.below st72; clear a_71_z a_71_c0 a_71_f0 a_71_c1 a_71_f1; have a_72_z : wo.heap.size < t72.heap.size := Ba_72.lt; have a_72_c0 : t72.cell? ⟨wo.heap.size, 0, none⟩ = some (.int .i64 a) := (Ba_72.cell 0).trans rfl; have a_72_f0 := Ba_72.frozen 0; have a_72_c1 : t72.cell? ⟨wo.heap.size, 1, none⟩ = some (.int .i64 1) := (Ba_72.cell 1).trans rfl; have a_72_f1 := Ba_72.frozen 1) | (go_at_call 26; with_reducible refine (F2.out _).mono ?_; rintro e t73 ⟨rfl, hb73⟩; have st73 := bl_step (Below.refl _ _) hb73; have bl73 := bl_step bl72 st73; have Ba_73 := Ba_72.below st73; clear a_72_z a_72_c0 a_72_f0 a_72_c1 a_72_f1; have a_73_z : wo.heap.size < t73.heap.size := Ba_73.lt; have a_73_c0 : t73.cell? ⟨wo.heap.size, 0, none⟩ = some (.int .i64 a) := (Ba_73.cell 0).trans rfl; have a_73_f0 := Ba_73.frozen 0; have a_73_c1 : t73.cell? ⟨wo.heap.size, 1, none⟩ = some (.int .i64 1) := (Ba_73.cell 1).trans rfl; have a_73_f1 := Ba_73.frozen 1))) | fail
              go_wp2_with fail
              first | (go_region_held (fun w' => w'.cell? ⟨wo.heap.size, 0, none⟩ = some (.int .i64 a) ∧ w'.cell? ⟨wo.heap.size, 1, none⟩ = some (.int .i64 1)) (go_keep) (first | (go_at_call 16; with_reducible refine (F3.out _).mono ?_; rintro e t74 ⟨rfl, hb74⟩; have st74 := bl_step (bl_drew (Below.refl _ _)) hb74; have bl74 := bl_step bl73 st74; have Ba_74 := Ba_73.below st74; clear a_73_z a_73_c0 a_73_f0 a_73_c1 a_73_f1; have a_74_z : wo.heap.size < t74.heap.size := Ba_74.lt; have a_74_c0 : t74.cell? ⟨wo.heap.size, 0, none⟩ = some (.int .i64 a) := (Ba_74.cell 0).trans rfl; have a_74_f0 := Ba_74.frozen 0; have a_74_c1 : t74.cell? ⟨wo.heap.size, 1, none⟩ = some (.int .i64 1) := (Ba_74.cell 1).trans rfl; have a_74_f1 := Ba_74.frozen 1) | (go_at_call 22; with_reducible refine (F4.out _).mono ?_; rintro e t75 ⟨rfl, hb75⟩; have st75 := bl_step (Below.refl _ _) hb75; have bl75 := bl_step bl74 st75; have Ba_75 := Ba_74.below st75; clear a_74_z a_74_c0 a_74_f0 a_74_c1 a_74_f1; have a_75_z : wo.heap.size < t75.heap.size := Ba_75.lt; have a_75_c0 : t75.cell? ⟨wo.heap.size, 0, none⟩ = some (.int .i64 a) := (Ba_75.cell 0).trans rfl; have a_75_f0 := Ba_75.frozen 0; have a_75_c1 : t75.cell? ⟨wo.heap.size, 1, none⟩ = some (.int .i64 1) := (Ba_75.cell 1).trans rfl; have a_75_f1 := Ba_75.frozen 1) | (go_at_call 16; with_reducible refine (F5.out _).mono ?_; rintro e t76 ⟨rfl, hb76⟩; have st76 := bl_step (Below.refl _ _) hb76; have bl76 := bl_step bl75 st76; have Ba_76 := Ba_75.below st76; clear a_75_z a_75_c0 a_75_f0 a_75_c1 a_75_f1; have a_76_z : wo.heap.size < t76.heap.size := Ba_76.lt; have a_76_c0 : t76.cell? ⟨wo.heap.size, 0, none⟩ = some (.int .i64 a) := (Ba_76.cell 0).trans rfl; have a_76_f0 := Ba_76.frozen 0; have a_76_c1 : t76.cell? ⟨wo.heap.size, 1, none⟩ = some (.int .i64 1) := (Ba_76.cell 1).trans rfl; have a_76_f1 := Ba_76.frozen 1) | (go_at_call 22; with_reducible refine (F6.out _).mono ?_; rintro e t77 ⟨rfl, hb77⟩; have st77 := bl_step (Below.refl _ _) hb77; have bl77 := bl_step bl76 st77; have Ba_77 := Ba_76.below st77; clear a_76_z a_76_c0 a_76_f0 a_76_c1 a_76_f1; have a_77_z : wo.heap.size < t77.heap.size := Ba_77.lt; have a_77_c0 : t77.cell? ⟨wo.heap.size, 0, none⟩ = some (.int .i64 a) := (Ba_77.cell 0).trans rfl; have a_77_f0 := Ba_77.frozen 0; have a_77_c1 : t77.cell? ⟨wo.heap.size, 1, none⟩ = some (.int .i64 1) := (Ba_77.cell 1).trans rfl; have a_77_f1 := Ba_77.frozen 1))) | fail
              all_goals
                go_wp2_with fail
                go_roundw
                case rel => exact ⟨i + 1, by go_num, by omega, bl_step be (bl_step bl51 (bl_step be2 bl77))⟩
                case measure => simp only [intOf]; omega
            · have hne : ¬ L = R := fun h => hb1 (k3.1 h)
              have hR : R = L + 1 := HK.out.resolve_left hne
              have hbt : (b == 1) = false := by simpa using hb1
              subst hR
              have hwL : IntKind.i64.wrap (L + 1) = L + 1 := wrap_id ⟨by omega, by omega⟩
              have hLL : (L == L + 1) = false := by rw [beq_eq_false_iff_ne]; omega
              have hq0 : (L != L + 1) = true := by rw [bne_iff_ne]; omega
              have hq2 : (L + 1 != L + 1) = false := by simp
              have hq3 : (L = L + 1) = False := eq_false (by omega)
              clear k3 hb1 hne
              have bl70 : Below wi.heap.size wi wi := Below.refl _ _
              have a_g_z : wo.heap.size < wi.heap.size := HBA.lt
              have a_g_c0 : wi.cell? ⟨wo.heap.size, 0, none⟩ = some (.int .i64 a) := (HBA.cell 0).trans rfl
              have a_g_f0 := HBA.frozen 0
              have a_g_c1 : wi.cell? ⟨wo.heap.size, 1, none⟩ = some (.int .i64 b) := (HBA.cell 1).trans rfl
              have a_g_f1 := HBA.frozen 1
              go_wp2_with fail
              refine (HG.out _).mono ?_; rintro e t71 ⟨rfl, hb71⟩
              have st71 := bl_step (Below.refl _ _) hb71
              have bl71 := bl_step bl70 st71
              clear a_g_z a_g_c0 a_g_f0 a_g_c1 a_g_f1
              have Ba_71 := HBA.below st71
              have a_71_z : wo.heap.size < t71.heap.size := Ba_71.lt
              have a_71_c0 : t71.cell? ⟨wo.heap.size, 0, none⟩ = some (.int .i64 a) := (Ba_71.cell 0).trans rfl
              have a_71_f0 := Ba_71.frozen 0
              have a_71_c1 : t71.cell? ⟨wo.heap.size, 1, none⟩ = some (.int .i64 b) := (Ba_71.cell 1).trans rfl
              have a_71_f1 := Ba_71.frozen 1
              go_wp2_with fail
              first | (go_region_held3 (fun w' => w'.cell? ⟨wo.heap.size, 0, none⟩ = some (.int .i64 a) ∧ w'.cell? ⟨wo.heap.size, 1, none⟩ = some (.int .i64 b)) (go_keep) (first | (go_at_call 24; with_reducible refine (F1.out _).mono ?_; rintro e t72 ⟨rfl, hb72⟩; have st72 := bl_step (bl_drew (Below.refl _ _)) hb72; have bl72 := bl_step bl71 st72; have Ba_72 := Ba_71.below st72; clear a_71_z a_71_c0 a_71_f0 a_71_c1 a_71_f1; have a_72_z : wo.heap.size < t72.heap.size := Ba_72.lt; have a_72_c0 : t72.cell? ⟨wo.heap.size, 0, none⟩ = some (.int .i64 a) := (Ba_72.cell 0).trans rfl; have a_72_f0 := Ba_72.frozen 0; have a_72_c1 : t72.cell? ⟨wo.heap.size, 1, none⟩ = some (.int .i64 b) := (Ba_72.cell 1).trans rfl; have a_72_f1 := Ba_72.frozen 1) | (go_at_call 26; with_reducible refine (F2.out _).mono ?_; rintro e t73 ⟨rfl, hb73⟩; have st73 := bl_step (Below.refl _ _) hb73; have bl73 := bl_step bl72 st73; have Ba_73 := Ba_72.below st73; clear a_72_z a_72_c0 a_72_f0 a_72_c1 a_72_f1; have a_73_z : wo.heap.size < t73.heap.size := Ba_73.lt; have a_73_c0 : t73.cell? ⟨wo.heap.size, 0, none⟩ = some (.int .i64 a) := (Ba_73.cell 0).trans rfl; have a_73_f0 := Ba_73.frozen 0; have a_73_c1 : t73.cell? ⟨wo.heap.size, 1, none⟩ = some (.int .i64 b) := (Ba_73.cell 1).trans rfl; have a_73_f1 := Ba_73.frozen 1))) | fail
              go_wp2_with fail
              first | (go_region_held3 (fun w' => w'.cell? ⟨wo.heap.size, 0, none⟩ = some (.int .i64 a) ∧ w'.cell? ⟨wo.heap.size, 1, none⟩ = some (.int .i64 b)) (go_keep) (first | (go_at_call 16; with_reducible refine (F3.out _).mono ?_; rintro e t74 ⟨rfl, hb74⟩; have st74 := bl_step (bl_drew (Below.refl _ _)) hb74; have bl74 := bl_step bl73 st74; have Ba_74 := Ba_73.below st74; clear a_73_z a_73_c0 a_73_f0 a_73_c1 a_73_f1; have a_74_z : wo.heap.size < t74.heap.size := Ba_74.lt; have a_74_c0 : t74.cell? ⟨wo.heap.size, 0, none⟩ = some (.int .i64 a) := (Ba_74.cell 0).trans rfl; have a_74_f0 := Ba_74.frozen 0; have a_74_c1 : t74.cell? ⟨wo.heap.size, 1, none⟩ = some (.int .i64 b) := (Ba_74.cell 1).trans rfl; have a_74_f1 := Ba_74.frozen 1) | (go_at_call 22; with_reducible refine (F4.out _).mono ?_; rintro e t75 ⟨rfl, hb75⟩; have st75 := bl_step (Below.refl _ _) hb75; have bl75 := bl_step bl74 st75; have Ba_75 := Ba_74.below st75; clear a_74_z a_74_c0 a_74_f0 a_74_c1 a_74_f1; have a_75_z : wo.heap.size < t75.heap.size := Ba_75.lt; have a_75_c0 : t75.cell? ⟨wo.heap.size, 0, none⟩ = some (.int .i64 a) := (Ba_75.cell 0).trans rfl; have a_75_f0 := Ba_75.frozen 0; have a_75_c1 : t75.cell? ⟨wo.heap.size, 1, none⟩ = some (.int .i64 b) := (Ba_75.cell 1).trans rfl; have a_75_f1 := Ba_75.frozen 1) | (go_at_call 16; with_reducible refine (F5.out _).mono ?_; rintro e t76 ⟨rfl, hb76⟩; have st76 := bl_step (Below.refl _ _) hb76; have bl76 := bl_step bl75 st76; have Ba_76 := Ba_75.below st76; clear a_75_z a_75_c0 a_75_f0 a_75_c1 a_75_f1; have a_76_z : wo.heap.size < t76.heap.size := Ba_76.lt; have a_76_c0 : t76.cell? ⟨wo.heap.size, 0, none⟩ = some (.int .i64 a) := (Ba_76.cell 0).trans rfl; have a_76_f0 := Ba_76.frozen 0; have a_76_c1 : t76.cell? ⟨wo.heap.size, 1, none⟩ = some (.int .i64 b) := (Ba_76.cell 1).trans rfl; have a_76_f1 := Ba_76.frozen 1) | (go_at_call 22; with_reducible refine (F6.out _).mono ?_; rintro e t77 ⟨rfl, hb77⟩; have st77 := bl_step (Below.refl _ _) hb77; have bl77 := bl_step bl76 st77; have Ba_77 := Ba_76.below st77; clear a_76_z a_76_c0 a_76_f0 a_76_c1 a_76_f1; have a_77_z : wo.heap.size < t77.heap.size := Ba_77.lt; have a_77_c0 : t77.cell? ⟨wo.heap.size, 0, none⟩ = some (.int .i64 a) := (Ba_77.cell 0).trans rfl; have a_77_f0 := Ba_77.frozen 0; have a_77_c1 : t77.cell? ⟨wo.heap.size, 1, none⟩ = some (.int .i64 b) := (Ba_77.cell 1).trans rfl; have a_77_f1 := Ba_77.frozen 1))) | fail
              go_wp2_with fail
              go_roundw
              case rel => exact ⟨i + 1, by go_num, by omega, bl_step be (bl_step bl51 (bl_step be2 bl77))⟩
              case measure => simp only [intOf]; omega
    · have iz0 : InI z0 := ⟨by omega, by omega⟩
      have iz1 : InI z1 := ⟨by omega, by omega⟩
      have izs : InI (z0 + z1) := ⟨by omega, by omega⟩
      have hpr := prod32 k0.1 k0.2 k1.1 k1.2
      have izp : InI (z0 * z1) := ⟨by omega, by omega⟩
      have G1 := Lib.hid (fun w => rof_any z0 w)
      have G2 := Lib.hid (fun w => rof_any z1 w)
      have G3 := fun w => radd_any z0 1 z1 1 w iz0 ⟨by omega, by omega⟩ iz1 ⟨by omega, by omega⟩
      rw [(add_whole z0 z1 iz0 iz1 izs).1, (add_whole z0 z1 iz0 iz1 izs).2.1, (add_whole z0 z1 iz0 iz1 izs).2.2] at G3
      have G3 := Lib.hid G3
      have G4 := fun w => rmul_any z0 1 z1 1 w iz0 ⟨by omega, by omega⟩ iz1 ⟨by omega, by omega⟩
      rw [(mul_whole z0 z1 izp).1, (mul_whole z0 z1 izp).2.1, (mul_whole z0 z1 izp).2.2] at G4
      have G4 := Lib.hid G4
      have G5 := Lib.hid (fun w => rof_any (z0 + z1) w)
      have G6 := Lib.hid (fun w => rof_any (z0 * z1) w)
      obtain ⟨k01, k02⟩ := k0
      obtain ⟨k11, k12⟩ := k1
      obtain ⟨P, hP⟩ : ∃ P, z0 * z1 = P := ⟨_, rfl⟩
      rw [hP] at G4 G6 hpr izp
      have hw0 : IntKind.i64.wrap z0 = z0 := wrap_id iz0
      have hw1 : IntKind.i64.wrap z1 = z1 := wrap_id iz1
      have hws : IntKind.i64.wrap (z0 + z1) = z0 + z1 := wrap_id izs
      have hwp : IntKind.i64.wrap P = P := wrap_id izp
      obtain ⟨hp1, hp2⟩ := hpr
      have bl80 : Below wo.heap.size wo wo := Below.refl _ _
      go_wp2_with fail
      refine (G1.out _).mono ?_; rintro e f81 ⟨rfl, hb81⟩
      have st81 := bl_step (Below.refl _ _) hb81
      have bl81 := bl_step bl80 st81
      go_wp2_with fail
      refine (G2.out _).mono ?_; rintro e f82 ⟨rfl, hb82⟩
      have st82 := bl_step (Below.refl _ _) hb82
      have bl82 := bl_step bl81 st82
      go_wp2_with fail
      refine (G3.out _).mono ?_; rintro e f83 ⟨rfl, hb83⟩
      have st83 := bl_step (Below.refl _ _) hb83
      have bl83 := bl_step bl82 st83
      go_wp2_with fail
      refine (G1.out _).mono ?_; rintro e f84 ⟨rfl, hb84⟩
      have st84 := bl_step (bl_alloc (Below.refl _ _) _) hb84
      have bl84 := bl_step bl83 st84
      have Bs_84 : Blk f84 (f83.heap.size) 23 #[.int .i64 (z0 + z1), .int .i64 1] := (Blk.new _ _ _).below hb84
      have s_84_z : f83.heap.size < f84.heap.size := Bs_84.lt
      have s_84_c0 : f84.cell? ⟨f83.heap.size, 0, none⟩ = some (.int .i64 (z0 + z1)) := (Bs_84.cell 0).trans rfl
      have s_84_f0 := Bs_84.frozen 0
      have s_84_c1 : f84.cell? ⟨f83.heap.size, 1, none⟩ = some (.int .i64 1) := (Bs_84.cell 1).trans rfl
      have s_84_f1 := Bs_84.frozen 1
      go_wp2_with fail
      refine (G2.out _).mono ?_; rintro e f85 ⟨rfl, hb85⟩
      have st85 := bl_step (Below.refl _ _) hb85
      have bl85 := bl_step bl84 st85
      clear s_84_z s_84_c0 s_84_f0 s_84_c1 s_84_f1
      have Bs_85 := Bs_84.below st85
      have s_85_z : f83.heap.size < f85.heap.size := Bs_85.lt
      have s_85_c0 : f85.cell? ⟨f83.heap.size, 0, none⟩ = some (.int .i64 (z0 + z1)) := (Bs_85.cell 0).trans rfl
      have s_85_f0 := Bs_85.frozen 0
      have s_85_c1 : f85.cell? ⟨f83.heap.size, 1, none⟩ = some (.int .i64 1) := (Bs_85.cell 1).trans rfl
      have s_85_f1 := Bs_85.frozen 1
      go_wp2_with fail
      refine (G4.out _).mono ?_; rintro e f86 ⟨rfl, hb86⟩
      have st86 := bl_step (Below.refl _ _) hb86
      have bl86 := bl_step bl85 st86
      clear s_85_z s_85_c0 s_85_f0 s_85_c1 s_85_f1
      have Bs_86 := Bs_85.below st86
      have s_86_z : f83.heap.size < f86.heap.size := Bs_86.lt
      have s_86_c0 : f86.cell? ⟨f83.heap.size, 0, none⟩ = some (.int .i64 (z0 + z1)) := (Bs_86.cell 0).trans rfl
      have s_86_f0 := Bs_86.frozen 0
      have s_86_c1 : f86.cell? ⟨f83.heap.size, 1, none⟩ = some (.int .i64 1) := (Bs_86.cell 1).trans rfl
      have s_86_f1 := Bs_86.frozen 1
      go_wp2_with fail
      have Ns_86 : Blk (f86.alloc (.cells #[.int .i64 P, .int .i64 1] 23)) (f83.heap.size) 23 #[.int .i64 (z0 + z1), .int .i64 1] := (Bs_86.alloc _)
      clear s_86_z s_86_c0 s_86_f0 s_86_c1 s_86_f1
      have Np_86 : Blk (f86.alloc (.cells #[.int .i64 P, .int .i64 1] 23)) (f86.heap.size) 23 #[.int .i64 P, .int .i64 1] := (Blk.new _ _ _)
      have bl86 := bl_alloc (bl86) (.cells #[.int .i64 P, .int .i64 1] 23)
      generalize f86.alloc (.cells #[.int .i64 P, .int .i64 1] 23) = fw86 at Ns_86 Np_86 bl86 ⊢
      have s_n86_z : f83.heap.size < fw86.heap.size := Ns_86.lt
      have s_n86_c0 : fw86.cell? ⟨f83.heap.size, 0, none⟩ = some (.int .i64 (z0 + z1)) := (Ns_86.cell 0).trans rfl
      have s_n86_f0 := Ns_86.frozen 0
      have s_n86_c1 : fw86.cell? ⟨f83.heap.size, 1, none⟩ = some (.int .i64 1) := (Ns_86.cell 1).trans rfl
      have s_n86_f1 := Ns_86.frozen 1
      have p_n86_z : f86.heap.size < fw86.heap.size := Np_86.lt
      have p_n86_c0 : fw86.cell? ⟨f86.heap.size, 0, none⟩ = some (.int .i64 P) := (Np_86.cell 0).trans rfl
      have p_n86_f0 := Np_86.frozen 0
      have p_n86_c1 : fw86.cell? ⟨f86.heap.size, 1, none⟩ = some (.int .i64 1) := (Np_86.cell 1).trans rfl
      have p_n86_f1 := Np_86.frozen 1
      go_region_held3 (fun w' => w'.cell? ⟨f83.heap.size, 0, none⟩ = some (.int .i64 (z0 + z1)) ∧ w'.cell? ⟨f83.heap.size, 1, none⟩ = some (.int .i64 1) ∧ w'.cell? ⟨f86.heap.size, 0, none⟩ = some (.int .i64 P) ∧ w'.cell? ⟨f86.heap.size, 1, none⟩ = some (.int .i64 1)) (go_keep) (first | (go_at_call 13; with_reducible refine (HW.out _ (bl_drew (bl_step blo bl86))).mono ?_; rintro e f87 ⟨rfl, hb87⟩; have st87 := bl_step (bl_drew (Below.refl _ _)) hb87; have bl87 := bl_step bl86 st87; have Bs_87 := Ns_86.below st87; clear s_n86_z s_n86_c0 s_n86_f0 s_n86_c1 s_n86_f1; have s_87_z : f83.heap.size < f87.heap.size := Bs_87.lt; have s_87_c0 : f87.cell? ⟨f83.heap.size, 0, none⟩ = some (.int .i64 (z0 + z1)) := (Bs_87.cell 0).trans rfl; have s_87_f0 := Bs_87.frozen 0; have s_87_c1 : f87.cell? ⟨f83.heap.size, 1, none⟩ = some (.int .i64 1) := (Bs_87.cell 1).trans rfl; have s_87_f1 := Bs_87.frozen 1; have Bp_87 := Np_86.below st87; clear p_n86_z p_n86_c0 p_n86_f0 p_n86_c1 p_n86_f1; have p_87_z : f86.heap.size < f87.heap.size := Bp_87.lt; have p_87_c0 : f87.cell? ⟨f86.heap.size, 0, none⟩ = some (.int .i64 P) := (Bp_87.cell 0).trans rfl; have p_87_f0 := Bp_87.frozen 0; have p_87_c1 : f87.cell? ⟨f86.heap.size, 1, none⟩ = some (.int .i64 1) := (Bp_87.cell 1).trans rfl; have p_87_f1 := Bp_87.frozen 1) | (go_at_call 16; with_reducible refine (G5.out _).mono ?_; rintro e f88 ⟨rfl, hb88⟩; have st88 := bl_step (Below.refl _ _) hb88; have bl88 := bl_step bl87 st88; have Bs_88 := Bs_87.below st88; clear s_87_z s_87_c0 s_87_f0 s_87_c1 s_87_f1; have s_88_z : f83.heap.size < f88.heap.size := Bs_88.lt; have s_88_c0 : f88.cell? ⟨f83.heap.size, 0, none⟩ = some (.int .i64 (z0 + z1)) := (Bs_88.cell 0).trans rfl; have s_88_f0 := Bs_88.frozen 0; have s_88_c1 : f88.cell? ⟨f83.heap.size, 1, none⟩ = some (.int .i64 1) := (Bs_88.cell 1).trans rfl; have s_88_f1 := Bs_88.frozen 1; have Bp_88 := Bp_87.below st88; clear p_87_z p_87_c0 p_87_f0 p_87_c1 p_87_f1; have p_88_z : f86.heap.size < f88.heap.size := Bp_88.lt; have p_88_c0 : f88.cell? ⟨f86.heap.size, 0, none⟩ = some (.int .i64 P) := (Bp_88.cell 0).trans rfl; have p_88_f0 := Bp_88.frozen 0; have p_88_c1 : f88.cell? ⟨f86.heap.size, 1, none⟩ = some (.int .i64 1) := (Bp_88.cell 1).trans rfl; have p_88_f1 := Bp_88.frozen 1) | (go_at_call 16; with_reducible refine (G6.out _).mono ?_; rintro e f89 ⟨rfl, hb89⟩; have st89 := bl_step (Below.refl _ _) hb89; have bl89 := bl_step bl88 st89; have Bs_89 := Bs_88.below st89; clear s_88_z s_88_c0 s_88_f0 s_88_c1 s_88_f1; have s_89_z : f83.heap.size < f89.heap.size := Bs_89.lt; have s_89_c0 : f89.cell? ⟨f83.heap.size, 0, none⟩ = some (.int .i64 (z0 + z1)) := (Bs_89.cell 0).trans rfl; have s_89_f0 := Bs_89.frozen 0; have s_89_c1 : f89.cell? ⟨f83.heap.size, 1, none⟩ = some (.int .i64 1) := (Bs_89.cell 1).trans rfl; have s_89_f1 := Bs_89.frozen 1; have Bp_89 := Bp_88.below st89; clear p_88_z p_88_c0 p_88_f0 p_88_c1 p_88_f1; have p_89_z : f86.heap.size < f89.heap.size := Bp_89.lt; have p_89_c0 : f89.cell? ⟨f86.heap.size, 0, none⟩ = some (.int .i64 P) := (Bp_89.cell 0).trans rfl; have p_89_f0 := Bp_89.frozen 0; have p_89_c1 : f89.cell? ⟨f86.heap.size, 1, none⟩ = some (.int .i64 1) := (Bp_89.cell 1).trans rfl; have p_89_f1 := Bp_89.frozen 1))
      go_wp2
      go_ret
      exact ⟨rfl, bl_step blo bl89⟩
end Go.Proofs.YtkdklmkcanjjfaaDoor
