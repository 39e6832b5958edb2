/- The walks of the reference for layer 2, part J: Add, Mul. -/
import Derived.Test.YtkdklmkcanjjfaaDoorRatI
namespace Go.Proofs.YtkdklmkcanjjfaaDoor
open Go.RowKit
set_option linter.unusedVariables false
set_option linter.unusedSimpArgs false
set_option maxRecDepth 100000

theorem sm_prod {a b : Int} (ia : InI a) (ib : InI b) : -85070591730234615865843651857942052864 ≤ a * b ∧ a * b ≤ 85070591730234615865843651857942052864 := by
  have h := Int.natAbs_mul a b
  have h1 : a.natAbs ≤ 9223372036854775808 := by obtain ⟨_, _⟩ := ia; omega
  have h2 : b.natAbs ≤ 9223372036854775808 := by obtain ⟨_, _⟩ := ib; omega
  have h3 := Nat.mul_le_mul h1 h2
  omega
theorem sm_mul {a b : Int} (ia : InI a) (ib : InI b) : Sm (a * b) := by have := sm_prod ia ib; exact sm_of (by omega) (by omega)
theorem short2_c (n : Bool) (A : Option Addr) (m c : Nat) (z : Int) (w : World) (h : BigV w n A m c z) :
    Calls Tryd.prog 60 #[.agg #[.bool n, .slice A m c]] w fun e w' => e = .returned (.tuple #[.int .i64 (fitN z), .bool (fitB z)]) ∧ Below w.heap.size w w' := by
  have HS := Lib.hid (fun W (hw : Below w.heap.size w W) => Short_any n A m c z W (h.below hw))
  go_enter Tryd.func60, Tryd.ntmps60
  go_wp2_with fail
  refine (HS.out _ (bl_alloc (Below.refl _ _) _)).mono ?_; rintro e w1 ⟨rfl, hb1⟩
  have bl1 := bl_step (bl_alloc (Below.refl w.heap.size w) _) hb1
  go_wp2
  go_ret2
  exact ⟨rfl, bl1⟩
set_option maxHeartbeats 6400000 in
theorem badd_core (a b c d g p q X Y S M N D : Int) (x2 x3 x4 x5 x6 : Bool) (w : World) (ia : InI a) (ib : InI b) (ic : InI c) (id : InI d) (ip : InI p) (iq : InI q) (hgz : (g == 0) = false) (hgn : ¬ g = 0) (hp : b.tdiv g = p) (hq : d.tdiv g = q)
    (NX : Hid (fitN (a * q) = X)) (BX : Hid (fitB (a * q) = x2)) (NY : Hid (fitN (c * p) = Y)) (BY : Hid (fitB (c * p) = x3)) (NS : Hid (fitN (a * q + c * p) = S)) (BS : Hid (fitB (a * q + c * p) = x4)) (NM : Hid (fitN (b * q) = M)) (BM : Hid (fitB (b * q) = x5))
    (HE : (Hid (∀ w, Calls Tryd.prog 15 #[.int .i64 a, .int .i64 b] w fun e w' => e = .returned (.bool true) ∧ Below w.heap.size w w'))) (HF : (Hid (∀ w, Calls Tryd.prog 15 #[.int .i64 c, .int .i64 d] w fun e w' => e = .returned (.bool true) ∧ Below w.heap.size w w'))) (HG : (Hid (∀ w, Calls Tryd.prog 40 #[.int .i64 b, .int .i64 d] w fun e w' => e = .returned (.tuple #[.int .i64 g, .bool true]) ∧ Below w.heap.size w w'))) (H6 : (Hid (∀ w, Calls Tryd.prog 12 #[.int .i64 S, .int .i64 M] w fun e w' => e = .returned (.tuple #[.int .i64 N, .int .i64 D, .bool x6]) ∧ Below w.heap.size w w'))) :
    Calls Tryd.prog 28 #[.int .i64 a, .int .i64 b, .int .i64 c, .int .i64 d] w fun e w' => e = .returned (.tuple #[.int .i64 (if (((x2 && x3) && x4) && x5) = true then N else 0), .int .i64 (if (((x2 && x3) && x4) && x5) = true then D else 0), .bool ((((x2 && x3) && x4) && x5) && x6)]) ∧ Below w.heap.size w w' := by
  have HS : Hid (Sm a ∧ Sm b ∧ Sm c ∧ Sm p ∧ Sm q ∧ Sm (a * q) ∧ Sm (c * p)) := Lib.hid ⟨sm_int ia, sm_int ib, sm_int ic, sm_int ip, sm_int iq, sm_mul ia iq, sm_mul ic ip⟩
  have IA := Lib.hid ia
  have IB := Lib.hid ib
  have IC := Lib.hid ic
  have IP := Lib.hid ip
  have IQ := Lib.hid iq
  obtain ⟨p1, p2⟩ := ip
  obtain ⟨q1, q2⟩ := iq
  go_enter Tryd.func28, Tryd.ntmps28
  go_wp2_with fail
  refine (HE.out _).mono ?_; rintro e v1 ⟨rfl, hb1⟩
  have st1 := bl_step (Below.refl _ _) hb1
  have bl1 := st1
  go_wp2_with fail
  refine (HF.out _).mono ?_; rintro e v2 ⟨rfl, hb2⟩
  have st2 := bl_step (Below.refl _ _) hb2
  have bl2 := bl_step bl1 st2
  go_wp2_with fail
  refine (HG.out _).mono ?_; rintro e v3 ⟨rfl, hb3⟩
  have st3 := bl_step (Below.refl _ _) hb3
  have bl3 := bl_step bl2 st3
  go_wp2_with fail
  refine (Of_any _ _ IA.out).mono ?_; rintro e v4 ⟨n4, A4, m4, c4, rfl, k4, hb4⟩
  have st4 := bl_step (Below.refl _ _) hb4
  have bl4 := bl_step bl3 st4
  go_wp2_with fail
  refine (Of_any _ _ IB.out).mono ?_; rintro e v5 ⟨n5, A5, m5, c5, rfl, k5, hb5⟩
  have st5 := bl_step (bl_alloc (Below.refl _ _) _) hb5
  have bl5 := bl_step bl4 st5
  have Bwa_5 : Blk v5 (v4.heap.size) 59 #[.bool n4, .slice A4 m4 c4] := (Blk.new _ _ _).below hb5
  have wa_5_z : v4.heap.size < v5.heap.size := Bwa_5.lt
  have wa_5_c0 : v5.cell? ⟨v4.heap.size, 0, none⟩ = some (.bool n4) := (Bwa_5.cell 0).trans rfl
  have wa_5_f0 := Bwa_5.frozen 0
  have wa_5_c1 : v5.cell? ⟨v4.heap.size, 1, none⟩ = some (.slice A4 m4 c4) := (Bwa_5.cell 1).trans rfl
  have wa_5_f1 := Bwa_5.frozen 1
  have kwa_5 := k4.below st5
  go_wp2_with fail
  refine (Of_any _ _ IC.out).mono ?_; rintro e v6 ⟨n6, A6, m6, c6, rfl, k6, hb6⟩
  have st6 := bl_step (bl_alloc (Below.refl _ _) _) hb6
  have bl6 := bl_step bl5 st6
  have Bwb_6 : Blk v6 (v5.heap.size) 59 #[.bool n5, .slice A5 m5 c5] := (Blk.new _ _ _).below hb6
  clear wa_5_z wa_5_c0 wa_5_f0 wa_5_c1 wa_5_f1
  have Bwa_6 := Bwa_5.below st6
  have wa_6_z : v4.heap.size < v6.heap.size := Bwa_6.lt
  have wa_6_c0 : v6.cell? ⟨v4.heap.size, 0, none⟩ = some (.bool n4) := (Bwa_6.cell 0).trans rfl
  have wa_6_f0 := Bwa_6.frozen 0
  have wa_6_c1 : v6.cell? ⟨v4.heap.size, 1, none⟩ = some (.slice A4 m4 c4) := (Bwa_6.cell 1).trans rfl
  have wa_6_f1 := Bwa_6.frozen 1
  have wb_6_z : v5.heap.size < v6.heap.size := Bwb_6.lt
  have wb_6_c0 : v6.cell? ⟨v5.heap.size, 0, none⟩ = some (.bool n5) := (Bwb_6.cell 0).trans rfl
  have wb_6_f0 := Bwb_6.frozen 0
  have wb_6_c1 : v6.cell? ⟨v5.heap.size, 1, none⟩ = some (.slice A5 m5 c5) := (Bwb_6.cell 1).trans rfl
  have wb_6_f1 := Bwb_6.frozen 1
  have kwa_6 := kwa_5.below st6
  have kwb_6 := k5.below st6
  go_wp2_with fail
  refine (Of_any _ _ IP.out).mono ?_; rintro e v7 ⟨n7, A7, m7, c7, rfl, k7, hb7⟩
  have st7 := bl_step (bl_alloc (Below.refl _ _) _) hb7
  have bl7 := bl_step bl6 st7
  have Bwc_7 : Blk v7 (v6.heap.size) 59 #[.bool n6, .slice A6 m6 c6] := (Blk.new _ _ _).below hb7
  clear wa_6_z wa_6_c0 wa_6_f0 wa_6_c1 wa_6_f1
  have Bwa_7 := Bwa_6.below st7
  clear wb_6_z wb_6_c0 wb_6_f0 wb_6_c1 wb_6_f1
  have Bwb_7 := Bwb_6.below st7
  have wa_7_z : v4.heap.size < v7.heap.size := Bwa_7.lt
  have wa_7_c0 : v7.cell? ⟨v4.heap.size, 0, none⟩ = some (.bool n4) := (Bwa_7.cell 0).trans rfl
  have wa_7_f0 := Bwa_7.frozen 0
  have wa_7_c1 : v7.cell? ⟨v4.heap.size, 1, none⟩ = some (.slice A4 m4 c4) := (Bwa_7.cell 1).trans rfl
  have wa_7_f1 := Bwa_7.frozen 1
  have wb_7_z : v5.heap.size < v7.heap.size := Bwb_7.lt
  have wb_7_c0 : v7.cell? ⟨v5.heap.size, 0, none⟩ = some (.bool n5) := (Bwb_7.cell 0).trans rfl
  have wb_7_f0 := Bwb_7.frozen 0
  have wb_7_c1 : v7.cell? ⟨v5.heap.size, 1, none⟩ = some (.slice A5 m5 c5) := (Bwb_7.cell 1).trans rfl
  have wb_7_f1 := Bwb_7.frozen 1
  have wc_7_z : v6.heap.size < v7.heap.size := Bwc_7.lt
  have wc_7_c0 : v7.cell? ⟨v6.heap.size, 0, none⟩ = some (.bool n6) := (Bwc_7.cell 0).trans rfl
  have wc_7_f0 := Bwc_7.frozen 0
  have wc_7_c1 : v7.cell? ⟨v6.heap.size, 1, none⟩ = some (.slice A6 m6 c6) := (Bwc_7.cell 1).trans rfl
  have wc_7_f1 := Bwc_7.frozen 1
  have kwa_7 := kwa_6.below st7
  have kwb_7 := kwb_6.below st7
  have kwc_7 := k6.below st7
  go_wp2_with fail
  refine (Of_any _ _ IQ.out).mono ?_; rintro e v8 ⟨n8, A8, m8, c8, rfl, k8, hb8⟩
  have st8 := bl_step (bl_alloc (Below.refl _ _) _) hb8
  have bl8 := bl_step bl7 st8
  have Bbg_8 : Blk v8 (v7.heap.size) 59 #[.bool n7, .slice A7 m7 c7] := (Blk.new _ _ _).below hb8
  clear wa_7_z wa_7_c0 wa_7_f0 wa_7_c1 wa_7_f1
  have Bwa_8 := Bwa_7.below st8
  clear wb_7_z wb_7_c0 wb_7_f0 wb_7_c1 wb_7_f1
  have Bwb_8 := Bwb_7.below st8
  clear wc_7_z wc_7_c0 wc_7_f0 wc_7_c1 wc_7_f1
  have Bwc_8 := Bwc_7.below st8
  have wa_8_z : v4.heap.size < v8.heap.size := Bwa_8.lt
  have wa_8_c0 : v8.cell? ⟨v4.heap.size, 0, none⟩ = some (.bool n4) := (Bwa_8.cell 0).trans rfl
  have wa_8_f0 := Bwa_8.frozen 0
  have wa_8_c1 : v8.cell? ⟨v4.heap.size, 1, none⟩ = some (.slice A4 m4 c4) := (Bwa_8.cell 1).trans rfl
  have wa_8_f1 := Bwa_8.frozen 1
  have wb_8_z : v5.heap.size < v8.heap.size := Bwb_8.lt
  have wb_8_c0 : v8.cell? ⟨v5.heap.size, 0, none⟩ = some (.bool n5) := (Bwb_8.cell 0).trans rfl
  have wb_8_f0 := Bwb_8.frozen 0
  have wb_8_c1 : v8.cell? ⟨v5.heap.size, 1, none⟩ = some (.slice A5 m5 c5) := (Bwb_8.cell 1).trans rfl
  have wb_8_f1 := Bwb_8.frozen 1
  have wc_8_z : v6.heap.size < v8.heap.size := Bwc_8.lt
  have wc_8_c0 : v8.cell? ⟨v6.heap.size, 0, none⟩ = some (.bool n6) := (Bwc_8.cell 0).trans rfl
  have wc_8_f0 := Bwc_8.frozen 0
  have wc_8_c1 : v8.cell? ⟨v6.heap.size, 1, none⟩ = some (.slice A6 m6 c6) := (Bwc_8.cell 1).trans rfl
  have wc_8_f1 := Bwc_8.frozen 1
  have bg_8_z : v7.heap.size < v8.heap.size := Bbg_8.lt
  have bg_8_c0 : v8.cell? ⟨v7.heap.size, 0, none⟩ = some (.bool n7) := (Bbg_8.cell 0).trans rfl
  have bg_8_f0 := Bbg_8.frozen 0
  have bg_8_c1 : v8.cell? ⟨v7.heap.size, 1, none⟩ = some (.slice A7 m7 c7) := (Bbg_8.cell 1).trans rfl
  have bg_8_f1 := Bbg_8.frozen 1
  have kwa_8 := kwa_7.below st8
  have kwb_8 := kwb_7.below st8
  have kwc_8 := kwc_7.below st8
  have kbg_8 := k7.below st8
  go_wp2_with fail
  refine (BMul_any _ _ _ _ _ _ _ _ _ _ _ (kwa_8.below (bl_alloc (Below.refl _ _) _)) (k8.below (bl_alloc (Below.refl _ _) _)) HS.out.1 HS.out.2.2.2.2.1).mono ?_; rintro e v9 ⟨n9, A9, m9, c9, rfl, k9, hb9⟩
  have st9 := bl_step (bl_alloc (Below.refl _ _) _) hb9
  have bl9 := bl_step bl8 st9
  have Bdg_9 : Blk v9 (v8.heap.size) 59 #[.bool n8, .slice A8 m8 c8] := (Blk.new _ _ _).below hb9
  clear wa_8_z wa_8_c0 wa_8_f0 wa_8_c1 wa_8_f1
  have Bwa_9 := Bwa_8.below st9
  clear wb_8_z wb_8_c0 wb_8_f0 wb_8_c1 wb_8_f1
  have Bwb_9 := Bwb_8.below st9
  clear wc_8_z wc_8_c0 wc_8_f0 wc_8_c1 wc_8_f1
  have Bwc_9 := Bwc_8.below st9
  clear bg_8_z bg_8_c0 bg_8_f0 bg_8_c1 bg_8_f1
  have Bbg_9 := Bbg_8.below st9
  have wa_9_z : v4.heap.size < v9.heap.size := Bwa_9.lt
  have wa_9_c0 : v9.cell? ⟨v4.heap.size, 0, none⟩ = some (.bool n4) := (Bwa_9.cell 0).trans rfl
  have wa_9_f0 := Bwa_9.frozen 0
  have wa_9_c1 : v9.cell? ⟨v4.heap.size, 1, none⟩ = some (.slice A4 m4 c4) := (Bwa_9.cell 1).trans rfl
  have wa_9_f1 := Bwa_9.frozen 1
  have wb_9_z : v5.heap.size < v9.heap.size := Bwb_9.lt
  have wb_9_c0 : v9.cell? ⟨v5.heap.size, 0, none⟩ = some (.bool n5) := (Bwb_9.cell 0).trans rfl
  have wb_9_f0 := Bwb_9.frozen 0
  have wb_9_c1 : v9.cell? ⟨v5.heap.size, 1, none⟩ = some (.slice A5 m5 c5) := (Bwb_9.cell 1).trans rfl
  have wb_9_f1 := Bwb_9.frozen 1
  have wc_9_z : v6.heap.size < v9.heap.size := Bwc_9.lt
  have wc_9_c0 : v9.cell? ⟨v6.heap.size, 0, none⟩ = some (.bool n6) := (Bwc_9.cell 0).trans rfl
  have wc_9_f0 := Bwc_9.frozen 0
  have wc_9_c1 : v9.cell? ⟨v6.heap.size, 1, none⟩ = some (.slice A6 m6 c6) := (Bwc_9.cell 1).trans rfl
  have wc_9_f1 := Bwc_9.frozen 1
  have bg_9_z : v7.heap.size < v9.heap.size := Bbg_9.lt
  have bg_9_c0 : v9.cell? ⟨v7.heap.size, 0, none⟩ = some (.bool n7) := (Bbg_9.cell 0).trans rfl
  have bg_9_f0 := Bbg_9.frozen 0
  have bg_9_c1 : v9.cell? ⟨v7.heap.size, 1, none⟩ = some (.slice A7 m7 c7) := (Bbg_9.cell 1).trans rfl
  have bg_9_f1 := Bbg_9.frozen 1
  have dg_9_z : v8.heap.size < v9.heap.size := Bdg_9.lt
  have dg_9_c0 : v9.cell? ⟨v8.heap.size, 0, none⟩ = some (.bool n8) := (Bdg_9.cell 0).trans rfl
  have dg_9_f0 := Bdg_9.frozen 0
  have dg_9_c1 : v9.cell? ⟨v8.heap.size, 1, none⟩ = some (.slice A8 m8 c8) := (Bdg_9.cell 1).trans rfl
  have dg_9_f1 := Bdg_9.frozen 1
  have kwa_9 := kwa_8.below st9
  have kwb_9 := kwb_8.below st9
  have kwc_9 := kwc_8.below st9
  have kbg_9 := kbg_8.below st9
  have kdg_9 := k8.below st9
  go_wp2_with fail
  refine (BMul_any _ _ _ _ _ _ _ _ _ _ _ (kwc_9.below (bl_alloc (Below.refl _ _) _)) (kbg_9.below (bl_alloc (Below.refl _ _) _)) HS.out.2.2.1 HS.out.2.2.2.1).mono ?_; rintro e v10 ⟨n10, A10, m10, c10, rfl, k10, hb10⟩
  have st10 := bl_step (bl_alloc (Below.refl _ _) _) hb10
  have bl10 := bl_step bl9 st10
  have Bx_10 : Blk v10 (v9.heap.size) 59 #[.bool n9, .slice A9 m9 c9] := (Blk.new _ _ _).below hb10
  clear wa_9_z wa_9_c0 wa_9_f0 wa_9_c1 wa_9_f1
  have Bwa_10 := Bwa_9.below st10
  clear wb_9_z wb_9_c0 wb_9_f0 wb_9_c1 wb_9_f1
  have Bwb_10 := Bwb_9.below st10
  clear wc_9_z wc_9_c0 wc_9_f0 wc_9_c1 wc_9_f1
  have Bwc_10 := Bwc_9.below st10
  clear bg_9_z bg_9_c0 bg_9_f0 bg_9_c1 bg_9_f1
  have Bbg_10 := Bbg_9.below st10
  clear dg_9_z dg_9_c0 dg_9_f0 dg_9_c1 dg_9_f1
  have Bdg_10 := Bdg_9.below st10
  have wa_10_z : v4.heap.size < v10.heap.size := Bwa_10.lt
  have wa_10_c0 : v10.cell? ⟨v4.heap.size, 0, none⟩ = some (.bool n4) := (Bwa_10.cell 0).trans rfl
  have wa_10_f0 := Bwa_10.frozen 0
  have wa_10_c1 : v10.cell? ⟨v4.heap.size, 1, none⟩ = some (.slice A4 m4 c4) := (Bwa_10.cell 1).trans rfl
  have wa_10_f1 := Bwa_10.frozen 1
  have wb_10_z : v5.heap.size < v10.heap.size := Bwb_10.lt
  have wb_10_c0 : v10.cell? ⟨v5.heap.size, 0, none⟩ = some (.bool n5) := (Bwb_10.cell 0).trans rfl
  have wb_10_f0 := Bwb_10.frozen 0
  have wb_10_c1 : v10.cell? ⟨v5.heap.size, 1, none⟩ = some (.slice A5 m5 c5) := (Bwb_10.cell 1).trans rfl
  have wb_10_f1 := Bwb_10.frozen 1
  have wc_10_z : v6.heap.size < v10.heap.size := Bwc_10.lt
  have wc_10_c0 : v10.cell? ⟨v6.heap.size, 0, none⟩ = some (.bool n6) := (Bwc_10.cell 0).trans rfl
  have wc_10_f0 := Bwc_10.frozen 0
  have wc_10_c1 : v10.cell? ⟨v6.heap.size, 1, none⟩ = some (.slice A6 m6 c6) := (Bwc_10.cell 1).trans rfl
  have wc_10_f1 := Bwc_10.frozen 1
  have bg_10_z : v7.heap.size < v10.heap.size := Bbg_10.lt
  have bg_10_c0 : v10.cell? ⟨v7.heap.size, 0, none⟩ = some (.bool n7) := (Bbg_10.cell 0).trans rfl
  have bg_10_f0 := Bbg_10.frozen 0
  have bg_10_c1 : v10.cell? ⟨v7.heap.size, 1, none⟩ = some (.slice A7 m7 c7) := (Bbg_10.cell 1).trans rfl
  have bg_10_f1 := Bbg_10.frozen 1
  have dg_10_z : v8.heap.size < v10.heap.size := Bdg_10.lt
  have dg_10_c0 : v10.cell? ⟨v8.heap.size, 0, none⟩ = some (.bool n8) := (Bdg_10.cell 0).trans rfl
  have dg_10_f0 := Bdg_10.frozen 0
  have dg_10_c1 : v10.cell? ⟨v8.heap.size, 1, none⟩ = some (.slice A8 m8 c8) := (Bdg_10.cell 1).trans rfl
  have dg_10_f1 := Bdg_10.frozen 1
  have x_10_z : v9.heap.size < v10.heap.size := Bx_10.lt
  have x_10_c0 : v10.cell? ⟨v9.heap.size, 0, none⟩ = some (.bool n9) := (Bx_10.cell 0).trans rfl
  have x_10_f0 := Bx_10.frozen 0
  have x_10_c1 : v10.cell? ⟨v9.heap.size, 1, none⟩ = some (.slice A9 m9 c9) := (Bx_10.cell 1).trans rfl
  have x_10_f1 := Bx_10.frozen 1
  have kwa_10 := kwa_9.below st10
  have kwb_10 := kwb_9.below st10
  have kwc_10 := kwc_9.below st10
  have kbg_10 := kbg_9.below st10
  have kdg_10 := kdg_9.below st10
  have kx_10 := k9.below st10
  go_wp2_with fail
  refine (BAdd_any _ _ _ _ _ _ _ _ _ _ _ (kx_10.below (bl_alloc (Below.refl _ _) _)) (k10.below (bl_alloc (Below.refl _ _) _)) HS.out.2.2.2.2.2.1 HS.out.2.2.2.2.2.2).mono ?_; rintro e v11 ⟨n11, A11, m11, c11, rfl, k11, hb11⟩
  have st11 := bl_step (bl_alloc (Below.refl _ _) _) hb11
  have bl11 := bl_step bl10 st11
  have By_11 : Blk v11 (v10.heap.size) 59 #[.bool n10, .slice A10 m10 c10] := (Blk.new _ _ _).below hb11
  clear wa_10_z wa_10_c0 wa_10_f0 wa_10_c1 wa_10_f1
  have Bwa_11 := Bwa_10.below st11
  clear wb_10_z wb_10_c0 wb_10_f0 wb_10_c1 wb_10_f1
  have Bwb_11 := Bwb_10.below st11
  clear wc_10_z wc_10_c0 wc_10_f0 wc_10_c1 wc_10_f1
  have Bwc_11 := Bwc_10.below st11
  clear bg_10_z bg_10_c0 bg_10_f0 bg_10_c1 bg_10_f1
  have Bbg_11 := Bbg_10.below st11
  clear dg_10_z dg_10_c0 dg_10_f0 dg_10_c1 dg_10_f1
  have Bdg_11 := Bdg_10.below st11
  clear x_10_z x_10_c0 x_10_f0 x_10_c1 x_10_f1
  have Bx_11 := Bx_10.below st11
  have wa_11_z : v4.heap.size < v11.heap.size := Bwa_11.lt
  have wa_11_c0 : v11.cell? ⟨v4.heap.size, 0, none⟩ = some (.bool n4) := (Bwa_11.cell 0).trans rfl
  have wa_11_f0 := Bwa_11.frozen 0
  have wa_11_c1 : v11.cell? ⟨v4.heap.size, 1, none⟩ = some (.slice A4 m4 c4) := (Bwa_11.cell 1).trans rfl
  have wa_11_f1 := Bwa_11.frozen 1
  have wb_11_z : v5.heap.size < v11.heap.size := Bwb_11.lt
  have wb_11_c0 : v11.cell? ⟨v5.heap.size, 0, none⟩ = some (.bool n5) := (Bwb_11.cell 0).trans rfl
  have wb_11_f0 := Bwb_11.frozen 0
  have wb_11_c1 : v11.cell? ⟨v5.heap.size, 1, none⟩ = some (.slice A5 m5 c5) := (Bwb_11.cell 1).trans rfl
  have wb_11_f1 := Bwb_11.frozen 1
  have wc_11_z : v6.heap.size < v11.heap.size := Bwc_11.lt
  have wc_11_c0 : v11.cell? ⟨v6.heap.size, 0, none⟩ = some (.bool n6) := (Bwc_11.cell 0).trans rfl
  have wc_11_f0 := Bwc_11.frozen 0
  have wc_11_c1 : v11.cell? ⟨v6.heap.size, 1, none⟩ = some (.slice A6 m6 c6) := (Bwc_11.cell 1).trans rfl
  have wc_11_f1 := Bwc_11.frozen 1
  have bg_11_z : v7.heap.size < v11.heap.size := Bbg_11.lt
  have bg_11_c0 : v11.cell? ⟨v7.heap.size, 0, none⟩ = some (.bool n7) := (Bbg_11.cell 0).trans rfl
  have bg_11_f0 := Bbg_11.frozen 0
  have bg_11_c1 : v11.cell? ⟨v7.heap.size, 1, none⟩ = some (.slice A7 m7 c7) := (Bbg_11.cell 1).trans rfl
  have bg_11_f1 := Bbg_11.frozen 1
  have dg_11_z : v8.heap.size < v11.heap.size := Bdg_11.lt
  have dg_11_c0 : v11.cell? ⟨v8.heap.size, 0, none⟩ = some (.bool n8) := (Bdg_11.cell 0).trans rfl
  have dg_11_f0 := Bdg_11.frozen 0
  have dg_11_c1 : v11.cell? ⟨v8.heap.size, 1, none⟩ = some (.slice A8 m8 c8) := (Bdg_11.cell 1).trans rfl
  have dg_11_f1 := Bdg_11.frozen 1
  have x_11_z : v9.heap.size < v11.heap.size := Bx_11.lt
  have x_11_c0 : v11.cell? ⟨v9.heap.size, 0, none⟩ = some (.bool n9) := (Bx_11.cell 0).trans rfl
  have x_11_f0 := Bx_11.frozen 0
  have x_11_c1 : v11.cell? ⟨v9.heap.size, 1, none⟩ = some (.slice A9 m9 c9) := (Bx_11.cell 1).trans rfl
  have x_11_f1 := Bx_11.frozen 1
  have y_11_z : v10.heap.size < v11.heap.size := By_11.lt
  have y_11_c0 : v11.cell? ⟨v10.heap.size, 0, none⟩ = some (.bool n10) := (By_11.cell 0).trans rfl
  have y_11_f0 := By_11.frozen 0
  have y_11_c1 : v11.cell? ⟨v10.heap.size, 1, none⟩ = some (.slice A10 m10 c10) := (By_11.cell 1).trans rfl
  have y_11_f1 := By_11.frozen 1
  have kwa_11 := kwa_10.below st11
  have kwb_11 := kwb_10.below st11
  have kwc_11 := kwc_10.below st11
  have kbg_11 := kbg_10.below st11
  have kdg_11 := kdg_10.below st11
  have kx_11 := kx_10.below st11
  have ky_11 := k10.below st11
  go_wp2_with fail
  refine (BMul_any _ _ _ _ _ _ _ _ _ _ _ (kwb_11.below (bl_alloc (Below.refl _ _) _)) (kdg_11.below (bl_alloc (Below.refl _ _) _)) HS.out.2.1 HS.out.2.2.2.2.1).mono ?_; rintro e v12 ⟨n12, A12, m12, c12, rfl, k12, hb12⟩
  have st12 := bl_step (bl_alloc (Below.refl _ _) _) hb12
  have bl12 := bl_step bl11 st12
  have Bs_12 : Blk v12 (v11.heap.size) 59 #[.bool n11, .slice A11 m11 c11] := (Blk.new _ _ _).below hb12
  clear wa_11_z wa_11_c0 wa_11_f0 wa_11_c1 wa_11_f1
  have Bwa_12 := Bwa_11.below st12
  clear wb_11_z wb_11_c0 wb_11_f0 wb_11_c1 wb_11_f1
  have Bwb_12 := Bwb_11.below st12
  clear wc_11_z wc_11_c0 wc_11_f0 wc_11_c1 wc_11_f1
  have Bwc_12 := Bwc_11.below st12
  clear bg_11_z bg_11_c0 bg_11_f0 bg_11_c1 bg_11_f1
  have Bbg_12 := Bbg_11.below st12
  clear dg_11_z dg_11_c0 dg_11_f0 dg_11_c1 dg_11_f1
  have Bdg_12 := Bdg_11.below st12
  clear x_11_z x_11_c0 x_11_f0 x_11_c1 x_11_f1
  have Bx_12 := Bx_11.below st12
  clear y_11_z y_11_c0 y_11_f0 y_11_c1 y_11_f1
  have By_12 := By_11.below st12
  have wa_12_z : v4.heap.size < v12.heap.size := Bwa_12.lt
  have wa_12_c0 : v12.cell? ⟨v4.heap.size, 0, none⟩ = some (.bool n4) := (Bwa_12.cell 0).trans rfl
  have wa_12_f0 := Bwa_12.frozen 0
  have wa_12_c1 : v12.cell? ⟨v4.heap.size, 1, none⟩ = some (.slice A4 m4 c4) := (Bwa_12.cell 1).trans rfl
  have wa_12_f1 := Bwa_12.frozen 1
  have wb_12_z : v5.heap.size < v12.heap.size := Bwb_12.lt
  have wb_12_c0 : v12.cell? ⟨v5.heap.size, 0, none⟩ = some (.bool n5) := (Bwb_12.cell 0).trans rfl
  have wb_12_f0 := Bwb_12.frozen 0
  have wb_12_c1 : v12.cell? ⟨v5.heap.size, 1, none⟩ = some (.slice A5 m5 c5) := (Bwb_12.cell 1).trans rfl
  have wb_12_f1 := Bwb_12.frozen 1
  have wc_12_z : v6.heap.size < v12.heap.size := Bwc_12.lt
  have wc_12_c0 : v12.cell? ⟨v6.heap.size, 0, none⟩ = some (.bool n6) := (Bwc_12.cell 0).trans rfl
  have wc_12_f0 := Bwc_12.frozen 0
  have wc_12_c1 : v12.cell? ⟨v6.heap.size, 1, none⟩ = some (.slice A6 m6 c6) := (Bwc_12.cell 1).trans rfl
  have wc_12_f1 := Bwc_12.frozen 1
  have bg_12_z : v7.heap.size < v12.heap.size := Bbg_12.lt
  have bg_12_c0 : v12.cell? ⟨v7.heap.size, 0, none⟩ = some (.bool n7) := (Bbg_12.cell 0).trans rfl
  have bg_12_f0 := Bbg_12.frozen 0
  have bg_12_c1 : v12.cell? ⟨v7.heap.size, 1, none⟩ = some (.slice A7 m7 c7) := (Bbg_12.cell 1).trans rfl
  have bg_12_f1 := Bbg_12.frozen 1
  have dg_12_z : v8.heap.size < v12.heap.size := Bdg_12.lt
  have dg_12_c0 : v12.cell? ⟨v8.heap.size, 0, none⟩ = some (.bool n8) := (Bdg_12.cell 0).trans rfl
  have dg_12_f0 := Bdg_12.frozen 0
  have dg_12_c1 : v12.cell? ⟨v8.heap.size, 1, none⟩ = some (.slice A8 m8 c8) := (Bdg_12.cell 1).trans rfl
  have dg_12_f1 := Bdg_12.frozen 1
  have x_12_z : v9.heap.size < v12.heap.size := Bx_12.lt
  have x_12_c0 : v12.cell? ⟨v9.heap.size, 0, none⟩ = some (.bool n9) := (Bx_12.cell 0).trans rfl
  have x_12_f0 := Bx_12.frozen 0
  have x_12_c1 : v12.cell? ⟨v9.heap.size, 1, none⟩ = some (.slice A9 m9 c9) := (Bx_12.cell 1).trans rfl
  have x_12_f1 := Bx_12.frozen 1
  have y_12_z : v10.heap.size < v12.heap.size := By_12.lt
  have y_12_c0 : v12.cell? ⟨v10.heap.size, 0, none⟩ = some (.bool n10) := (By_12.cell 0).trans rfl
  have y_12_f0 := By_12.frozen 0
  have y_12_c1 : v12.cell? ⟨v10.heap.size, 1, none⟩ = some (.slice A10 m10 c10) := (By_12.cell 1).trans rfl
  have y_12_f1 := By_12.frozen 1
  have s_12_z : v11.heap.size < v12.heap.size := Bs_12.lt
  have s_12_c0 : v12.cell? ⟨v11.heap.size, 0, none⟩ = some (.bool n11) := (Bs_12.cell 0).trans rfl
  have s_12_f0 := Bs_12.frozen 0
  have s_12_c1 : v12.cell? ⟨v11.heap.size, 1, none⟩ = some (.slice A11 m11 c11) := (Bs_12.cell 1).trans rfl
  have s_12_f1 := Bs_12.frozen 1
  have kwa_12 := kwa_11.below st12
  have kwb_12 := kwb_11.below st12
  have kwc_12 := kwc_11.below st12
  have kbg_12 := kbg_11.below st12
  have kdg_12 := kdg_11.below st12
  have kx_12 := kx_11.below st12
  have ky_12 := ky_11.below st12
  have ks_12 := k11.below st12
  go_wp2_with fail
  refine (short2_c _ _ _ _ _ _ (kx_12.below (bl_alloc (Below.refl _ _) _))).mono ?_; rintro e v13 ⟨rfl, hb13⟩
  rw [NX.out, BX.out]
  have st13 := bl_step (bl_alloc (Below.refl _ _) _) hb13
  have bl13 := bl_step bl12 st13
  have Bm_13 : Blk v13 (v12.heap.size) 59 #[.bool n12, .slice A12 m12 c12] := (Blk.new _ _ _).below hb13
  clear wa_12_z wa_12_c0 wa_12_f0 wa_12_c1 wa_12_f1
  have Bwa_13 := Bwa_12.below st13
  clear wb_12_z wb_12_c0 wb_12_f0 wb_12_c1 wb_12_f1
  have Bwb_13 := Bwb_12.below st13
  clear wc_12_z wc_12_c0 wc_12_f0 wc_12_c1 wc_12_f1
  have Bwc_13 := Bwc_12.below st13
  clear bg_12_z bg_12_c0 bg_12_f0 bg_12_c1 bg_12_f1
  have Bbg_13 := Bbg_12.below st13
  clear dg_12_z dg_12_c0 dg_12_f0 dg_12_c1 dg_12_f1
  have Bdg_13 := Bdg_12.below st13
  clear x_12_z x_12_c0 x_12_f0 x_12_c1 x_12_f1
  have Bx_13 := Bx_12.below st13
  clear y_12_z y_12_c0 y_12_f0 y_12_c1 y_12_f1
  have By_13 := By_12.below st13
  clear s_12_z s_12_c0 s_12_f0 s_12_c1 s_12_f1
  have Bs_13 := Bs_12.below st13
  have wa_13_z : v4.heap.size < v13.heap.size := Bwa_13.lt
  have wa_13_c0 : v13.cell? ⟨v4.heap.size, 0, none⟩ = some (.bool n4) := (Bwa_13.cell 0).trans rfl
  have wa_13_f0 := Bwa_13.frozen 0
  have wa_13_c1 : v13.cell? ⟨v4.heap.size, 1, none⟩ = some (.slice A4 m4 c4) := (Bwa_13.cell 1).trans rfl
  have wa_13_f1 := Bwa_13.frozen 1
  have wb_13_z : v5.heap.size < v13.heap.size := Bwb_13.lt
  have wb_13_c0 : v13.cell? ⟨v5.heap.size, 0, none⟩ = some (.bool n5) := (Bwb_13.cell 0).trans rfl
  have wb_13_f0 := Bwb_13.frozen 0
  have wb_13_c1 : v13.cell? ⟨v5.heap.size, 1, none⟩ = some (.slice A5 m5 c5) := (Bwb_13.cell 1).trans rfl
  have wb_13_f1 := Bwb_13.frozen 1
  have wc_13_z : v6.heap.size < v13.heap.size := Bwc_13.lt
  have wc_13_c0 : v13.cell? ⟨v6.heap.size, 0, none⟩ = some (.bool n6) := (Bwc_13.cell 0).trans rfl
  have wc_13_f0 := Bwc_13.frozen 0
  have wc_13_c1 : v13.cell? ⟨v6.heap.size, 1, none⟩ = some (.slice A6 m6 c6) := (Bwc_13.cell 1).trans rfl
  have wc_13_f1 := Bwc_13.frozen 1
  have bg_13_z : v7.heap.size < v13.heap.size := Bbg_13.lt
  have bg_13_c0 : v13.cell? ⟨v7.heap.size, 0, none⟩ = some (.bool n7) := (Bbg_13.cell 0).trans rfl
  have bg_13_f0 := Bbg_13.frozen 0
  have bg_13_c1 : v13.cell? ⟨v7.heap.size, 1, none⟩ = some (.slice A7 m7 c7) := (Bbg_13.cell 1).trans rfl
  have bg_13_f1 := Bbg_13.frozen 1
  have dg_13_z : v8.heap.size < v13.heap.size := Bdg_13.lt
  have dg_13_c0 : v13.cell? ⟨v8.heap.size, 0, none⟩ = some (.bool n8) := (Bdg_13.cell 0).trans rfl
  have dg_13_f0 := Bdg_13.frozen 0
  have dg_13_c1 : v13.cell? ⟨v8.heap.size, 1, none⟩ = some (.slice A8 m8 c8) := (Bdg_13.cell 1).trans rfl
  have dg_13_f1 := Bdg_13.frozen 1
  have x_13_z : v9.heap.size < v13.heap.size := Bx_13.lt
  have x_13_c0 : v13.cell? ⟨v9.heap.size, 0, none⟩ = some (.bool n9) := (Bx_13.cell 0).trans rfl
  have x_13_f0 := Bx_13.frozen 0
  have x_13_c1 : v13.cell? ⟨v9.heap.size, 1, none⟩ = some (.slice A9 m9 c9) := (Bx_13.cell 1).trans rfl
  have x_13_f1 := Bx_13.frozen 1
  have y_13_z : v10.heap.size < v13.heap.size := By_13.lt
  have y_13_c0 : v13.cell? ⟨v10.heap.size, 0, none⟩ = some (.bool n10) := (By_13.cell 0).trans rfl
  have y_13_f0 := By_13.frozen 0
  have y_13_c1 : v13.cell? ⟨v10.heap.size, 1, none⟩ = some (.slice A10 m10 c10) := (By_13.cell 1).trans rfl
  have y_13_f1 := By_13.frozen 1
  have s_13_z : v11.heap.size < v13.heap.size := Bs_13.lt
  have s_13_c0 : v13.cell? ⟨v11.heap.size, 0, none⟩ = some (.bool n11) := (Bs_13.cell 0).trans rfl
  have s_13_f0 := Bs_13.frozen 0
  have s_13_c1 : v13.cell? ⟨v11.heap.size, 1, none⟩ = some (.slice A11 m11 c11) := (Bs_13.cell 1).trans rfl
  have s_13_f1 := Bs_13.frozen 1
  have m_13_z : v12.heap.size < v13.heap.size := Bm_13.lt
  have m_13_c0 : v13.cell? ⟨v12.heap.size, 0, none⟩ = some (.bool n12) := (Bm_13.cell 0).trans rfl
  have m_13_f0 := Bm_13.frozen 0
  have m_13_c1 : v13.cell? ⟨v12.heap.size, 1, none⟩ = some (.slice A12 m12 c12) := (Bm_13.cell 1).trans rfl
  have m_13_f1 := Bm_13.frozen 1
  have kwa_13 := kwa_12.below st13
  have kwb_13 := kwb_12.below st13
  have kwc_13 := kwc_12.below st13
  have kbg_13 := kbg_12.below st13
  have kdg_13 := kdg_12.below st13
  have kx_13 := kx_12.below st13
  have ky_13 := ky_12.below st13
  have ks_13 := ks_12.below st13
  have km_13 := k12.below st13
  go_wp2_with fail
  refine (short2_c _ _ _ _ _ _ ky_13).mono ?_; rintro e v14 ⟨rfl, hb14⟩
  rw [NY.out, BY.out]
  have st14 := bl_step (Below.refl _ _) hb14
  have bl14 := bl_step bl13 st14
  clear wa_13_z wa_13_c0 wa_13_f0 wa_13_c1 wa_13_f1
  have Bwa_14 := Bwa_13.below st14
  clear wb_13_z wb_13_c0 wb_13_f0 wb_13_c1 wb_13_f1
  have Bwb_14 := Bwb_13.below st14
  clear wc_13_z wc_13_c0 wc_13_f0 wc_13_c1 wc_13_f1
  have Bwc_14 := Bwc_13.below st14
  clear bg_13_z bg_13_c0 bg_13_f0 bg_13_c1 bg_13_f1
  have Bbg_14 := Bbg_13.below st14
  clear dg_13_z dg_13_c0 dg_13_f0 dg_13_c1 dg_13_f1
  have Bdg_14 := Bdg_13.below st14
  clear x_13_z x_13_c0 x_13_f0 x_13_c1 x_13_f1
  have Bx_14 := Bx_13.below st14
  clear y_13_z y_13_c0 y_13_f0 y_13_c1 y_13_f1
  have By_14 := By_13.below st14
  clear s_13_z s_13_c0 s_13_f0 s_13_c1 s_13_f1
  have Bs_14 := Bs_13.below st14
  clear m_13_z m_13_c0 m_13_f0 m_13_c1 m_13_f1
  have Bm_14 := Bm_13.below st14
  have wa_14_z : v4.heap.size < v14.heap.size := Bwa_14.lt
  have wa_14_c0 : v14.cell? ⟨v4.heap.size, 0, none⟩ = some (.bool n4) := (Bwa_14.cell 0).trans rfl
  have wa_14_f0 := Bwa_14.frozen 0
  have wa_14_c1 : v14.cell? ⟨v4.heap.size, 1, none⟩ = some (.slice A4 m4 c4) := (Bwa_14.cell 1).trans rfl
  have wa_14_f1 := Bwa_14.frozen 1
  have wb_14_z : v5.heap.size < v14.heap.size := Bwb_14.lt
  have wb_14_c0 : v14.cell? ⟨v5.heap.size, 0, none⟩ = some (.bool n5) := (Bwb_14.cell 0).trans rfl
  have wb_14_f0 := Bwb_14.frozen 0
  have wb_14_c1 : v14.cell? ⟨v5.heap.size, 1, none⟩ = some (.slice A5 m5 c5) := (Bwb_14.cell 1).trans rfl
  have wb_14_f1 := Bwb_14.frozen 1
  have wc_14_z : v6.heap.size < v14.heap.size := Bwc_14.lt
  have wc_14_c0 : v14.cell? ⟨v6.heap.size, 0, none⟩ = some (.bool n6) := (Bwc_14.cell 0).trans rfl
  have wc_14_f0 := Bwc_14.frozen 0
  have wc_14_c1 : v14.cell? ⟨v6.heap.size, 1, none⟩ = some (.slice A6 m6 c6) := (Bwc_14.cell 1).trans rfl
  have wc_14_f1 := Bwc_14.frozen 1
  have bg_14_z : v7.heap.size < v14.heap.size := Bbg_14.lt
  have bg_14_c0 : v14.cell? ⟨v7.heap.size, 0, none⟩ = some (.bool n7) := (Bbg_14.cell 0).trans rfl
  have bg_14_f0 := Bbg_14.frozen 0
  have bg_14_c1 : v14.cell? ⟨v7.heap.size, 1, none⟩ = some (.slice A7 m7 c7) := (Bbg_14.cell 1).trans rfl
  have bg_14_f1 := Bbg_14.frozen 1
  have dg_14_z : v8.heap.size < v14.heap.size := Bdg_14.lt
  have dg_14_c0 : v14.cell? ⟨v8.heap.size, 0, none⟩ = some (.bool n8) := (Bdg_14.cell 0).trans rfl
  have dg_14_f0 := Bdg_14.frozen 0
  have dg_14_c1 : v14.cell? ⟨v8.heap.size, 1, none⟩ = some (.slice A8 m8 c8) := (Bdg_14.cell 1).trans rfl
  have dg_14_f1 := Bdg_14.frozen 1
  have x_14_z : v9.heap.size < v14.heap.size := Bx_14.lt
  have x_14_c0 : v14.cell? ⟨v9.heap.size, 0, none⟩ = some (.bool n9) := (Bx_14.cell 0).trans rfl
  have x_14_f0 := Bx_14.frozen 0
  have x_14_c1 : v14.cell? ⟨v9.heap.size, 1, none⟩ = some (.slice A9 m9 c9) := (Bx_14.cell 1).trans rfl
  have x_14_f1 := Bx_14.frozen 1
  have y_14_z : v10.heap.size < v14.heap.size := By_14.lt
  have y_14_c0 : v14.cell? ⟨v10.heap.size, 0, none⟩ = some (.bool n10) := (By_14.cell 0).trans rfl
  have y_14_f0 := By_14.frozen 0
  have y_14_c1 : v14.cell? ⟨v10.heap.size, 1, none⟩ = some (.slice A10 m10 c10) := (By_14.cell 1).trans rfl
  have y_14_f1 := By_14.frozen 1
  have s_14_z : v11.heap.size < v14.heap.size := Bs_14.lt
  have s_14_c0 : v14.cell? ⟨v11.heap.size, 0, none⟩ = some (.bool n11) := (Bs_14.cell 0).trans rfl
  have s_14_f0 := Bs_14.frozen 0
  have s_14_c1 : v14.cell? ⟨v11.heap.size, 1, none⟩ = some (.slice A11 m11 c11) := (Bs_14.cell 1).trans rfl
  have s_14_f1 := Bs_14.frozen 1
  have m_14_z : v12.heap.size < v14.heap.size := Bm_14.lt
  have m_14_c0 : v14.cell? ⟨v12.heap.size, 0, none⟩ = some (.bool n12) := (Bm_14.cell 0).trans rfl
  have m_14_f0 := Bm_14.frozen 0
  have m_14_c1 : v14.cell? ⟨v12.heap.size, 1, none⟩ = some (.slice A12 m12 c12) := (Bm_14.cell 1).trans rfl
  have m_14_f1 := Bm_14.frozen 1
  have kwa_14 := kwa_13.below st14
  have kwb_14 := kwb_13.below st14
  have kwc_14 := kwc_13.below st14
  have kbg_14 := kbg_13.below st14
  have kdg_14 := kdg_13.below st14
  have kx_14 := kx_13.below st14
  have ky_14 := ky_13.below st14
  have ks_14 := ks_13.below st14
  have km_14 := km_13.below st14
  go_wp2_with fail
  refine (short2_c _ _ _ _ _ _ ks_14).mono ?_; rintro e v15 ⟨rfl, hb15⟩
  rw [NS.out, BS.out]
  have st15 := bl_step (Below.refl _ _) hb15
  have bl15 := bl_step bl14 st15
  clear wa_14_z wa_14_c0 wa_14_f0 wa_14_c1 wa_14_f1
  have Bwa_15 := Bwa_14.below st15
  clear wb_14_z wb_14_c0 wb_14_f0 wb_14_c1 wb_14_f1
  have Bwb_15 := Bwb_14.below st15
  clear wc_14_z wc_14_c0 wc_14_f0 wc_14_c1 wc_14_f1
  have Bwc_15 := Bwc_14.below st15
  clear bg_14_z bg_14_c0 bg_14_f0 bg_14_c1 bg_14_f1
  have Bbg_15 := Bbg_14.below st15
  clear dg_14_z dg_14_c0 dg_14_f0 dg_14_c1 dg_14_f1
  have Bdg_15 := Bdg_14.below st15
  clear x_14_z x_14_c0 x_14_f0 x_14_c1 x_14_f1
  have Bx_15 := Bx_14.below st15
  clear y_14_z y_14_c0 y_14_f0 y_14_c1 y_14_f1
  have By_15 := By_14.below st15
  clear s_14_z s_14_c0 s_14_f0 s_14_c1 s_14_f1
  have Bs_15 := Bs_14.below st15
  clear m_14_z m_14_c0 m_14_f0 m_14_c1 m_14_f1
  have Bm_15 := Bm_14.below st15
  have wa_15_z : v4.heap.size < v15.heap.size := Bwa_15.lt
  have wa_15_c0 : v15.cell? ⟨v4.heap.size, 0, none⟩ = some (.bool n4) := (Bwa_15.cell 0).trans rfl
  have wa_15_f0 := Bwa_15.frozen 0
  have wa_15_c1 : v15.cell? ⟨v4.heap.size, 1, none⟩ = some (.slice A4 m4 c4) := (Bwa_15.cell 1).trans rfl
  have wa_15_f1 := Bwa_15.frozen 1
  have wb_15_z : v5.heap.size < v15.heap.size := Bwb_15.lt
  have wb_15_c0 : v15.cell? ⟨v5.heap.size, 0, none⟩ = some (.bool n5) := (Bwb_15.cell 0).trans rfl
  have wb_15_f0 := Bwb_15.frozen 0
  have wb_15_c1 : v15.cell? ⟨v5.heap.size, 1, none⟩ = some (.slice A5 m5 c5) := (Bwb_15.cell 1).trans rfl
  have wb_15_f1 := Bwb_15.frozen 1
  have wc_15_z : v6.heap.size < v15.heap.size := Bwc_15.lt
  have wc_15_c0 : v15.cell? ⟨v6.heap.size, 0, none⟩ = some (.bool n6) := (Bwc_15.cell 0).trans rfl
  have wc_15_f0 := Bwc_15.frozen 0
  have wc_15_c1 : v15.cell? ⟨v6.heap.size, 1, none⟩ = some (.slice A6 m6 c6) := (Bwc_15.cell 1).trans rfl
  have wc_15_f1 := Bwc_15.frozen 1
  have bg_15_z : v7.heap.size < v15.heap.size := Bbg_15.lt
  have bg_15_c0 : v15.cell? ⟨v7.heap.size, 0, none⟩ = some (.bool n7) := (Bbg_15.cell 0).trans rfl
  have bg_15_f0 := Bbg_15.frozen 0
  have bg_15_c1 : v15.cell? ⟨v7.heap.size, 1, none⟩ = some (.slice A7 m7 c7) := (Bbg_15.cell 1).trans rfl
  have bg_15_f1 := Bbg_15.frozen 1
  have dg_15_z : v8.heap.size < v15.heap.size := Bdg_15.lt
  have dg_15_c0 : v15.cell? ⟨v8.heap.size, 0, none⟩ = some (.bool n8) := (Bdg_15.cell 0).trans rfl
  have dg_15_f0 := Bdg_15.frozen 0
  have dg_15_c1 : v15.cell? ⟨v8.heap.size, 1, none⟩ = some (.slice A8 m8 c8) := (Bdg_15.cell 1).trans rfl
  have dg_15_f1 := Bdg_15.frozen 1
  have x_15_z : v9.heap.size < v15.heap.size := Bx_15.lt
  have x_15_c0 : v15.cell? ⟨v9.heap.size, 0, none⟩ = some (.bool n9) := (Bx_15.cell 0).trans rfl
  have x_15_f0 := Bx_15.frozen 0
  have x_15_c1 : v15.cell? ⟨v9.heap.size, 1, none⟩ = some (.slice A9 m9 c9) := (Bx_15.cell 1).trans rfl
  have x_15_f1 := Bx_15.frozen 1
  have y_15_z : v10.heap.size < v15.heap.size := By_15.lt
  have y_15_c0 : v15.cell? ⟨v10.heap.size, 0, none⟩ = some (.bool n10) := (By_15.cell 0).trans rfl
  have y_15_f0 := By_15.frozen 0
  have y_15_c1 : v15.cell? ⟨v10.heap.size, 1, none⟩ = some (.slice A10 m10 c10) := (By_15.cell 1).trans rfl
  have y_15_f1 := By_15.frozen 1
  have s_15_z : v11.heap.size < v15.heap.size := Bs_15.lt
  have s_15_c0 : v15.cell? ⟨v11.heap.size, 0, none⟩ = some (.bool n11) := (Bs_15.cell 0).trans rfl
  have s_15_f0 := Bs_15.frozen 0
  have s_15_c1 : v15.cell? ⟨v11.heap.size, 1, none⟩ = some (.slice A11 m11 c11) := (Bs_15.cell 1).trans rfl
  have s_15_f1 := Bs_15.frozen 1
  have m_15_z : v12.heap.size < v15.heap.size := Bm_15.lt
  have m_15_c0 : v15.cell? ⟨v12.heap.size, 0, none⟩ = some (.bool n12) := (Bm_15.cell 0).trans rfl
  have m_15_f0 := Bm_15.frozen 0
  have m_15_c1 : v15.cell? ⟨v12.heap.size, 1, none⟩ = some (.slice A12 m12 c12) := (Bm_15.cell 1).trans rfl
  have m_15_f1 := Bm_15.frozen 1
  have kwa_15 := kwa_14.below st15
  have kwb_15 := kwb_14.below st15
  have kwc_15 := kwc_14.below st15
  have kbg_15 := kbg_14.below st15
  have kdg_15 := kdg_14.below st15
  have kx_15 := kx_14.below st15
  have ky_15 := ky_14.below st15
  have ks_15 := ks_14.below st15
  have km_15 := km_14.below st15
  go_wp2_with fail
  refine (short2_c _ _ _ _ _ _ km_15).mono ?_; rintro e v16 ⟨rfl, hb16⟩
  rw [NM.out, BM.out]
  have st16 := bl_step (Below.refl _ _) hb16
  have bl16 := bl_step bl15 st16
  clear wa_15_z wa_15_c0 wa_15_f0 wa_15_c1 wa_15_f1
  have Bwa_16 := Bwa_15.below st16
  clear wb_15_z wb_15_c0 wb_15_f0 wb_15_c1 wb_15_f1
  have Bwb_16 := Bwb_15.below st16
  clear wc_15_z wc_15_c0 wc_15_f0 wc_15_c1 wc_15_f1
  have Bwc_16 := Bwc_15.below st16
  clear bg_15_z bg_15_c0 bg_15_f0 bg_15_c1 bg_15_f1
  have Bbg_16 := Bbg_15.below st16
  clear dg_15_z dg_15_c0 dg_15_f0 dg_15_c1 dg_15_f1
  have Bdg_16 := Bdg_15.below st16
  clear x_15_z x_15_c0 x_15_f0 x_15_c1 x_15_f1
  have Bx_16 := Bx_15.below st16
  clear y_15_z y_15_c0 y_15_f0 y_15_c1 y_15_f1
  have By_16 := By_15.below st16
  clear s_15_z s_15_c0 s_15_f0 s_15_c1 s_15_f1
  have Bs_16 := Bs_15.below st16
  clear m_15_z m_15_c0 m_15_f0 m_15_c1 m_15_f1
  have Bm_16 := Bm_15.below st16
  have wa_16_z : v4.heap.size < v16.heap.size := Bwa_16.lt
  have wa_16_c0 : v16.cell? ⟨v4.heap.size, 0, none⟩ = some (.bool n4) := (Bwa_16.cell 0).trans rfl
  have wa_16_f0 := Bwa_16.frozen 0
  have wa_16_c1 : v16.cell? ⟨v4.heap.size, 1, none⟩ = some (.slice A4 m4 c4) := (Bwa_16.cell 1).trans rfl
  have wa_16_f1 := Bwa_16.frozen 1
  have wb_16_z : v5.heap.size < v16.heap.size := Bwb_16.lt
  have wb_16_c0 : v16.cell? ⟨v5.heap.size, 0, none⟩ = some (.bool n5) := (Bwb_16.cell 0).trans rfl
  have wb_16_f0 := Bwb_16.frozen 0
  have wb_16_c1 : v16.cell? ⟨v5.heap.size, 1, none⟩ = some (.slice A5 m5 c5) := (Bwb_16.cell 1).trans rfl
  have wb_16_f1 := Bwb_16.frozen 1
  have wc_16_z : v6.heap.size < v16.heap.size := Bwc_16.lt
  have wc_16_c0 : v16.cell? ⟨v6.heap.size, 0, none⟩ = some (.bool n6) := (Bwc_16.cell 0).trans rfl
  have wc_16_f0 := Bwc_16.frozen 0
  have wc_16_c1 : v16.cell? ⟨v6.heap.size, 1, none⟩ = some (.slice A6 m6 c6) := (Bwc_16.cell 1).trans rfl
  have wc_16_f1 := Bwc_16.frozen 1
  have bg_16_z : v7.heap.size < v16.heap.size := Bbg_16.lt
  have bg_16_c0 : v16.cell? ⟨v7.heap.size, 0, none⟩ = some (.bool n7) := (Bbg_16.cell 0).trans rfl
  have bg_16_f0 := Bbg_16.frozen 0
  have bg_16_c1 : v16.cell? ⟨v7.heap.size, 1, none⟩ = some (.slice A7 m7 c7) := (Bbg_16.cell 1).trans rfl
  have bg_16_f1 := Bbg_16.frozen 1
  have dg_16_z : v8.heap.size < v16.heap.size := Bdg_16.lt
  have dg_16_c0 : v16.cell? ⟨v8.heap.size, 0, none⟩ = some (.bool n8) := (Bdg_16.cell 0).trans rfl
  have dg_16_f0 := Bdg_16.frozen 0
  have dg_16_c1 : v16.cell? ⟨v8.heap.size, 1, none⟩ = some (.slice A8 m8 c8) := (Bdg_16.cell 1).trans rfl
  have dg_16_f1 := Bdg_16.frozen 1
  have x_16_z : v9.heap.size < v16.heap.size := Bx_16.lt
  have x_16_c0 : v16.cell? ⟨v9.heap.size, 0, none⟩ = some (.bool n9) := (Bx_16.cell 0).trans rfl
  have x_16_f0 := Bx_16.frozen 0
  have x_16_c1 : v16.cell? ⟨v9.heap.size, 1, none⟩ = some (.slice A9 m9 c9) := (Bx_16.cell 1).trans rfl
  have x_16_f1 := Bx_16.frozen 1
  have y_16_z : v10.heap.size < v16.heap.size := By_16.lt
  have y_16_c0 : v16.cell? ⟨v10.heap.size, 0, none⟩ = some (.bool n10) := (By_16.cell 0).trans rfl
  have y_16_f0 := By_16.frozen 0
  have y_16_c1 : v16.cell? ⟨v10.heap.size, 1, none⟩ = some (.slice A10 m10 c10) := (By_16.cell 1).trans rfl
  have y_16_f1 := By_16.frozen 1
  have s_16_z : v11.heap.size < v16.heap.size := Bs_16.lt
  have s_16_c0 : v16.cell? ⟨v11.heap.size, 0, none⟩ = some (.bool n11) := (Bs_16.cell 0).trans rfl
  have s_16_f0 := Bs_16.frozen 0
  have s_16_c1 : v16.cell? ⟨v11.heap.size, 1, none⟩ = some (.slice A11 m11 c11) := (Bs_16.cell 1).trans rfl
  have s_16_f1 := Bs_16.frozen 1
  have m_16_z : v12.heap.size < v16.heap.size := Bm_16.lt
  have m_16_c0 : v16.cell? ⟨v12.heap.size, 0, none⟩ = some (.bool n12) := (Bm_16.cell 0).trans rfl
  have m_16_f0 := Bm_16.frozen 0
  have m_16_c1 : v16.cell? ⟨v12.heap.size, 1, none⟩ = some (.slice A12 m12 c12) := (Bm_16.cell 1).trans rfl
  have m_16_f1 := Bm_16.frozen 1
  have kwa_16 := kwa_15.below st16
  have kwb_16 := kwb_15.below st16
  have kwc_16 := kwc_15.below st16
  have kbg_16 := kbg_15.below st16
  have kdg_16 := kdg_15.below st16
  have kx_16 := kx_15.below st16
  have ky_16 := ky_15.below st16
  have ks_16 := ks_15.below st16
  have km_16 := km_15.below st16
  cases x2
  · go_wp2
    go_ret3
    exact ⟨rfl, bl16⟩
  · cases x3
    · go_wp2
      go_ret3
      exact ⟨rfl, bl16⟩
    · cases x4
      · go_wp2
        go_ret3
        exact ⟨rfl, bl16⟩
      · cases x5
        · go_wp2
          go_ret3
          exact ⟨rfl, bl16⟩
        · go_wp2_with fail
          refine (H6.out _).mono ?_; rintro e y1 ⟨rfl, hy1⟩
          have bly := bl_step bl16 hy1
          go_wp2
          go_ret3
          exact ⟨rfl, bly⟩
set_option maxHeartbeats 6400000 in
theorem bmul_core (a b c d g h p q r s S M N D : Int) (x4 x5 x6 : Bool) (w : World) (ip : InI p) (iq : InI q) (ir : InI r) (is : InI s) (hgz : (g == 0) = false) (hgn : ¬ g = 0) (hhz : (h == 0) = false) (hhn : ¬ h = 0) (hp : a.tdiv g = p) (hq : c.tdiv h = q) (hr : b.tdiv h = r) (hs : d.tdiv g = s)
    (NS : Hid (fitN (p * q) = S)) (BS : Hid (fitB (p * q) = x4)) (NM : Hid (fitN (r * s) = M)) (BM : Hid (fitB (r * s) = x5))
    (HE : (Hid (∀ w, Calls Tryd.prog 15 #[.int .i64 a, .int .i64 b] w fun e w' => e = .returned (.bool true) ∧ Below w.heap.size w w'))) (HF : (Hid (∀ w, Calls Tryd.prog 15 #[.int .i64 c, .int .i64 d] w fun e w' => e = .returned (.bool true) ∧ Below w.heap.size w w'))) (HG : (Hid (∀ w, Calls Tryd.prog 40 #[.int .i64 a, .int .i64 d] w fun e w' => e = .returned (.tuple #[.int .i64 g, .bool true]) ∧ Below w.heap.size w w'))) (HH : (Hid (∀ w, Calls Tryd.prog 40 #[.int .i64 c, .int .i64 b] w fun e w' => e = .returned (.tuple #[.int .i64 h, .bool true]) ∧ Below w.heap.size w w'))) (H6 : (Hid (∀ w, Calls Tryd.prog 12 #[.int .i64 S, .int .i64 M] w fun e w' => e = .returned (.tuple #[.int .i64 N, .int .i64 D, .bool x6]) ∧ Below w.heap.size w w'))) :
    Calls Tryd.prog 30 #[.int .i64 a, .int .i64 b, .int .i64 c, .int .i64 d] w fun e w' => e = .returned (.tuple #[.int .i64 (if (x4 && x5) = true then N else 0), .int .i64 (if (x4 && x5) = true then D else 0), .bool ((x4 && x5) && x6)]) ∧ Below w.heap.size w w' := by
  have HS : Hid (Sm p ∧ Sm q ∧ Sm r ∧ Sm s) := Lib.hid ⟨sm_int ip, sm_int iq, sm_int ir, sm_int is⟩
  have IP := Lib.hid ip
  have IQ := Lib.hid iq
  have IR := Lib.hid ir
  have IS := Lib.hid is
  obtain ⟨p1, p2⟩ := ip
  obtain ⟨q1, q2⟩ := iq
  obtain ⟨r1, r2⟩ := ir
  obtain ⟨s1, s2⟩ := is
  go_enter Tryd.func30, Tryd.ntmps30
  go_wp2_with fail
  refine (HE.out _).mono ?_; rintro e v1 ⟨rfl, hb1⟩
  have st1 := bl_step (Below.refl _ _) hb1
  have bl1 := st1
  go_wp2_with fail
  refine (HF.out _).mono ?_; rintro e v2 ⟨rfl, hb2⟩
  have st2 := bl_step (Below.refl _ _) hb2
  have bl2 := bl_step bl1 st2
  go_wp2_with fail
  refine (HG.out _).mono ?_; rintro e v3 ⟨rfl, hb3⟩
  have st3 := bl_step (Below.refl _ _) hb3
  have bl3 := bl_step bl2 st3
  go_wp2_with fail
  refine (HH.out _).mono ?_; rintro e v4 ⟨rfl, hb4⟩
  have st4 := bl_step (Below.refl _ _) hb4
  have bl4 := bl_step bl3 st4
  go_wp2_with fail
  refine (Of_any _ _ IP.out).mono ?_; rintro e v5 ⟨n5, A5, m5, c5, rfl, k5, hb5⟩
  have st5 := bl_step (Below.refl _ _) hb5
  have bl5 := bl_step bl4 st5
  go_wp2_with fail
  refine (Of_any _ _ IR.out).mono ?_; rintro e v6 ⟨n6, A6, m6, c6, rfl, k6, hb6⟩
  have st6 := bl_step (bl_alloc (Below.refl _ _) _) hb6
  have bl6 := bl_step bl5 st6
  have Bwa_6 : Blk v6 (v5.heap.size) 59 #[.bool n5, .slice A5 m5 c5] := (Blk.new _ _ _).below hb6
  have wa_6_z : v5.heap.size < v6.heap.size := Bwa_6.lt
  have wa_6_c0 : v6.cell? ⟨v5.heap.size, 0, none⟩ = some (.bool n5) := (Bwa_6.cell 0).trans rfl
  have wa_6_f0 := Bwa_6.frozen 0
  have wa_6_c1 : v6.cell? ⟨v5.heap.size, 1, none⟩ = some (.slice A5 m5 c5) := (Bwa_6.cell 1).trans rfl
  have wa_6_f1 := Bwa_6.frozen 1
  have kwa_6 := k5.below st6
  go_wp2_with fail
  refine (Of_any _ _ IQ.out).mono ?_; rintro e v7 ⟨n7, A7, m7, c7, rfl, k7, hb7⟩
  have st7 := bl_step (bl_alloc (Below.refl _ _) _) hb7
  have bl7 := bl_step bl6 st7
  have Bwb_7 : Blk v7 (v6.heap.size) 59 #[.bool n6, .slice A6 m6 c6] := (Blk.new _ _ _).below hb7
  clear wa_6_z wa_6_c0 wa_6_f0 wa_6_c1 wa_6_f1
  have Bwa_7 := Bwa_6.below st7
  have wa_7_z : v5.heap.size < v7.heap.size := Bwa_7.lt
  have wa_7_c0 : v7.cell? ⟨v5.heap.size, 0, none⟩ = some (.bool n5) := (Bwa_7.cell 0).trans rfl
  have wa_7_f0 := Bwa_7.frozen 0
  have wa_7_c1 : v7.cell? ⟨v5.heap.size, 1, none⟩ = some (.slice A5 m5 c5) := (Bwa_7.cell 1).trans rfl
  have wa_7_f1 := Bwa_7.frozen 1
  have wb_7_z : v6.heap.size < v7.heap.size := Bwb_7.lt
  have wb_7_c0 : v7.cell? ⟨v6.heap.size, 0, none⟩ = some (.bool n6) := (Bwb_7.cell 0).trans rfl
  have wb_7_f0 := Bwb_7.frozen 0
  have wb_7_c1 : v7.cell? ⟨v6.heap.size, 1, none⟩ = some (.slice A6 m6 c6) := (Bwb_7.cell 1).trans rfl
  have wb_7_f1 := Bwb_7.frozen 1
  have kwa_7 := kwa_6.below st7
  have kwb_7 := k6.below st7
  go_wp2_with fail
  refine (Of_any _ _ IS.out).mono ?_; rintro e v8 ⟨n8, A8, m8, c8, rfl, k8, hb8⟩
  have st8 := bl_step (bl_alloc (Below.refl _ _) _) hb8
  have bl8 := bl_step bl7 st8
  have Bwc_8 : Blk v8 (v7.heap.size) 59 #[.bool n7, .slice A7 m7 c7] := (Blk.new _ _ _).below hb8
  clear wa_7_z wa_7_c0 wa_7_f0 wa_7_c1 wa_7_f1
  have Bwa_8 := Bwa_7.below st8
  clear wb_7_z wb_7_c0 wb_7_f0 wb_7_c1 wb_7_f1
  have Bwb_8 := Bwb_7.below st8
  have wa_8_z : v5.heap.size < v8.heap.size := Bwa_8.lt
  have wa_8_c0 : v8.cell? ⟨v5.heap.size, 0, none⟩ = some (.bool n5) := (Bwa_8.cell 0).trans rfl
  have wa_8_f0 := Bwa_8.frozen 0
  have wa_8_c1 : v8.cell? ⟨v5.heap.size, 1, none⟩ = some (.slice A5 m5 c5) := (Bwa_8.cell 1).trans rfl
  have wa_8_f1 := Bwa_8.frozen 1
  have wb_8_z : v6.heap.size < v8.heap.size := Bwb_8.lt
  have wb_8_c0 : v8.cell? ⟨v6.heap.size, 0, none⟩ = some (.bool n6) := (Bwb_8.cell 0).trans rfl
  have wb_8_f0 := Bwb_8.frozen 0
  have wb_8_c1 : v8.cell? ⟨v6.heap.size, 1, none⟩ = some (.slice A6 m6 c6) := (Bwb_8.cell 1).trans rfl
  have wb_8_f1 := Bwb_8.frozen 1
  have wc_8_z : v7.heap.size < v8.heap.size := Bwc_8.lt
  have wc_8_c0 : v8.cell? ⟨v7.heap.size, 0, none⟩ = some (.bool n7) := (Bwc_8.cell 0).trans rfl
  have wc_8_f0 := Bwc_8.frozen 0
  have wc_8_c1 : v8.cell? ⟨v7.heap.size, 1, none⟩ = some (.slice A7 m7 c7) := (Bwc_8.cell 1).trans rfl
  have wc_8_f1 := Bwc_8.frozen 1
  have kwa_8 := kwa_7.below st8
  have kwb_8 := kwb_7.below st8
  have kwc_8 := k7.below st8
  go_wp2_with fail
  refine (BMul_any _ _ _ _ _ _ _ _ _ _ _ (kwa_8.below (bl_alloc (Below.refl _ _) _)) (kwc_8.below (bl_alloc (Below.refl _ _) _)) HS.out.1 HS.out.2.1).mono ?_; rintro e v9 ⟨n9, A9, m9, c9, rfl, k9, hb9⟩
  have st9 := bl_step (bl_alloc (Below.refl _ _) _) hb9
  have bl9 := bl_step bl8 st9
  have Bwd_9 : Blk v9 (v8.heap.size) 59 #[.bool n8, .slice A8 m8 c8] := (Blk.new _ _ _).below hb9
  clear wa_8_z wa_8_c0 wa_8_f0 wa_8_c1 wa_8_f1
  have Bwa_9 := Bwa_8.below st9
  clear wb_8_z wb_8_c0 wb_8_f0 wb_8_c1 wb_8_f1
  have Bwb_9 := Bwb_8.below st9
  clear wc_8_z wc_8_c0 wc_8_f0 wc_8_c1 wc_8_f1
  have Bwc_9 := Bwc_8.below st9
  have wa_9_z : v5.heap.size < v9.heap.size := Bwa_9.lt
  have wa_9_c0 : v9.cell? ⟨v5.heap.size, 0, none⟩ = some (.bool n5) := (Bwa_9.cell 0).trans rfl
  have wa_9_f0 := Bwa_9.frozen 0
  have wa_9_c1 : v9.cell? ⟨v5.heap.size, 1, none⟩ = some (.slice A5 m5 c5) := (Bwa_9.cell 1).trans rfl
  have wa_9_f1 := Bwa_9.frozen 1
  have wb_9_z : v6.heap.size < v9.heap.size := Bwb_9.lt
  have wb_9_c0 : v9.cell? ⟨v6.heap.size, 0, none⟩ = some (.bool n6) := (Bwb_9.cell 0).trans rfl
  have wb_9_f0 := Bwb_9.frozen 0
  have wb_9_c1 : v9.cell? ⟨v6.heap.size, 1, none⟩ = some (.slice A6 m6 c6) := (Bwb_9.cell 1).trans rfl
  have wb_9_f1 := Bwb_9.frozen 1
  have wc_9_z : v7.heap.size < v9.heap.size := Bwc_9.lt
  have wc_9_c0 : v9.cell? ⟨v7.heap.size, 0, none⟩ = some (.bool n7) := (Bwc_9.cell 0).trans rfl
  have wc_9_f0 := Bwc_9.frozen 0
  have wc_9_c1 : v9.cell? ⟨v7.heap.size, 1, none⟩ = some (.slice A7 m7 c7) := (Bwc_9.cell 1).trans rfl
  have wc_9_f1 := Bwc_9.frozen 1
  have wd_9_z : v8.heap.size < v9.heap.size := Bwd_9.lt
  have wd_9_c0 : v9.cell? ⟨v8.heap.size, 0, none⟩ = some (.bool n8) := (Bwd_9.cell 0).trans rfl
  have wd_9_f0 := Bwd_9.frozen 0
  have wd_9_c1 : v9.cell? ⟨v8.heap.size, 1, none⟩ = some (.slice A8 m8 c8) := (Bwd_9.cell 1).trans rfl
  have wd_9_f1 := Bwd_9.frozen 1
  have kwa_9 := kwa_8.below st9
  have kwb_9 := kwb_8.below st9
  have kwc_9 := kwc_8.below st9
  have kwd_9 := k8.below st9
  go_wp2_with fail
  refine (BMul_any _ _ _ _ _ _ _ _ _ _ _ (kwb_9.below (bl_alloc (Below.refl _ _) _)) (kwd_9.below (bl_alloc (Below.refl _ _) _)) HS.out.2.2.1 HS.out.2.2.2).mono ?_; rintro e v10 ⟨n10, A10, m10, c10, rfl, k10, hb10⟩
  have st10 := bl_step (bl_alloc (Below.refl _ _) _) hb10
  have bl10 := bl_step bl9 st10
  have Bn_10 : Blk v10 (v9.heap.size) 59 #[.bool n9, .slice A9 m9 c9] := (Blk.new _ _ _).below hb10
  clear wa_9_z wa_9_c0 wa_9_f0 wa_9_c1 wa_9_f1
  have Bwa_10 := Bwa_9.below st10
  clear wb_9_z wb_9_c0 wb_9_f0 wb_9_c1 wb_9_f1
  have Bwb_10 := Bwb_9.below st10
  clear wc_9_z wc_9_c0 wc_9_f0 wc_9_c1 wc_9_f1
  have Bwc_10 := Bwc_9.below st10
  clear wd_9_z wd_9_c0 wd_9_f0 wd_9_c1 wd_9_f1
  have Bwd_10 := Bwd_9.below st10
  have wa_10_z : v5.heap.size < v10.heap.size := Bwa_10.lt
  have wa_10_c0 : v10.cell? ⟨v5.heap.size, 0, none⟩ = some (.bool n5) := (Bwa_10.cell 0).trans rfl
  have wa_10_f0 := Bwa_10.frozen 0
  have wa_10_c1 : v10.cell? ⟨v5.heap.size, 1, none⟩ = some (.slice A5 m5 c5) := (Bwa_10.cell 1).trans rfl
  have wa_10_f1 := Bwa_10.frozen 1
  have wb_10_z : v6.heap.size < v10.heap.size := Bwb_10.lt
  have wb_10_c0 : v10.cell? ⟨v6.heap.size, 0, none⟩ = some (.bool n6) := (Bwb_10.cell 0).trans rfl
  have wb_10_f0 := Bwb_10.frozen 0
  have wb_10_c1 : v10.cell? ⟨v6.heap.size, 1, none⟩ = some (.slice A6 m6 c6) := (Bwb_10.cell 1).trans rfl
  have wb_10_f1 := Bwb_10.frozen 1
  have wc_10_z : v7.heap.size < v10.heap.size := Bwc_10.lt
  have wc_10_c0 : v10.cell? ⟨v7.heap.size, 0, none⟩ = some (.bool n7) := (Bwc_10.cell 0).trans rfl
  have wc_10_f0 := Bwc_10.frozen 0
  have wc_10_c1 : v10.cell? ⟨v7.heap.size, 1, none⟩ = some (.slice A7 m7 c7) := (Bwc_10.cell 1).trans rfl
  have wc_10_f1 := Bwc_10.frozen 1
  have wd_10_z : v8.heap.size < v10.heap.size := Bwd_10.lt
  have wd_10_c0 : v10.cell? ⟨v8.heap.size, 0, none⟩ = some (.bool n8) := (Bwd_10.cell 0).trans rfl
  have wd_10_f0 := Bwd_10.frozen 0
  have wd_10_c1 : v10.cell? ⟨v8.heap.size, 1, none⟩ = some (.slice A8 m8 c8) := (Bwd_10.cell 1).trans rfl
  have wd_10_f1 := Bwd_10.frozen 1
  have n_10_z : v9.heap.size < v10.heap.size := Bn_10.lt
  have n_10_c0 : v10.cell? ⟨v9.heap.size, 0, none⟩ = some (.bool n9) := (Bn_10.cell 0).trans rfl
  have n_10_f0 := Bn_10.frozen 0
  have n_10_c1 : v10.cell? ⟨v9.heap.size, 1, none⟩ = some (.slice A9 m9 c9) := (Bn_10.cell 1).trans rfl
  have n_10_f1 := Bn_10.frozen 1
  have kwa_10 := kwa_9.below st10
  have kwb_10 := kwb_9.below st10
  have kwc_10 := kwc_9.below st10
  have kwd_10 := kwd_9.below st10
  have kn_10 := k9.below st10
  go_wp2_with fail
  refine (short2_c _ _ _ _ _ _ (kn_10.below (bl_alloc (Below.refl _ _) _))).mono ?_; rintro e v11 ⟨rfl, hb11⟩
  rw [NS.out, BS.out]
  have st11 := bl_step (bl_alloc (Below.refl _ _) _) hb11
  have bl11 := bl_step bl10 st11
  have Bm_11 : Blk v11 (v10.heap.size) 59 #[.bool n10, .slice A10 m10 c10] := (Blk.new _ _ _).below hb11
  clear wa_10_z wa_10_c0 wa_10_f0 wa_10_c1 wa_10_f1
  have Bwa_11 := Bwa_10.below st11
  clear wb_10_z wb_10_c0 wb_10_f0 wb_10_c1 wb_10_f1
  have Bwb_11 := Bwb_10.below st11
  clear wc_10_z wc_10_c0 wc_10_f0 wc_10_c1 wc_10_f1
  have Bwc_11 := Bwc_10.below st11
  clear wd_10_z wd_10_c0 wd_10_f0 wd_10_c1 wd_10_f1
  have Bwd_11 := Bwd_10.below st11
  clear n_10_z n_10_c0 n_10_f0 n_10_c1 n_10_f1
  have Bn_11 := Bn_10.below st11
  have wa_11_z : v5.heap.size < v11.heap.size := Bwa_11.lt
  have wa_11_c0 : v11.cell? ⟨v5.heap.size, 0, none⟩ = some (.bool n5) := (Bwa_11.cell 0).trans rfl
  have wa_11_f0 := Bwa_11.frozen 0
  have wa_11_c1 : v11.cell? ⟨v5.heap.size, 1, none⟩ = some (.slice A5 m5 c5) := (Bwa_11.cell 1).trans rfl
  have wa_11_f1 := Bwa_11.frozen 1
  have wb_11_z : v6.heap.size < v11.heap.size := Bwb_11.lt
  have wb_11_c0 : v11.cell? ⟨v6.heap.size, 0, none⟩ = some (.bool n6) := (Bwb_11.cell 0).trans rfl
  have wb_11_f0 := Bwb_11.frozen 0
  have wb_11_c1 : v11.cell? ⟨v6.heap.size, 1, none⟩ = some (.slice A6 m6 c6) := (Bwb_11.cell 1).trans rfl
  have wb_11_f1 := Bwb_11.frozen 1
  have wc_11_z : v7.heap.size < v11.heap.size := Bwc_11.lt
  have wc_11_c0 : v11.cell? ⟨v7.heap.size, 0, none⟩ = some (.bool n7) := (Bwc_11.cell 0).trans rfl
  have wc_11_f0 := Bwc_11.frozen 0
  have wc_11_c1 : v11.cell? ⟨v7.heap.size, 1, none⟩ = some (.slice A7 m7 c7) := (Bwc_11.cell 1).trans rfl
  have wc_11_f1 := Bwc_11.frozen 1
  have wd_11_z : v8.heap.size < v11.heap.size := Bwd_11.lt
  have wd_11_c0 : v11.cell? ⟨v8.heap.size, 0, none⟩ = some (.bool n8) := (Bwd_11.cell 0).trans rfl
  have wd_11_f0 := Bwd_11.frozen 0
  have wd_11_c1 : v11.cell? ⟨v8.heap.size, 1, none⟩ = some (.slice A8 m8 c8) := (Bwd_11.cell 1).trans rfl
  have wd_11_f1 := Bwd_11.frozen 1
  have n_11_z : v9.heap.size < v11.heap.size := Bn_11.lt
  have n_11_c0 : v11.cell? ⟨v9.heap.size, 0, none⟩ = some (.bool n9) := (Bn_11.cell 0).trans rfl
  have n_11_f0 := Bn_11.frozen 0
  have n_11_c1 : v11.cell? ⟨v9.heap.size, 1, none⟩ = some (.slice A9 m9 c9) := (Bn_11.cell 1).trans rfl
  have n_11_f1 := Bn_11.frozen 1
  have m_11_z : v10.heap.size < v11.heap.size := Bm_11.lt
  have m_11_c0 : v11.cell? ⟨v10.heap.size, 0, none⟩ = some (.bool n10) := (Bm_11.cell 0).trans rfl
  have m_11_f0 := Bm_11.frozen 0
  have m_11_c1 : v11.cell? ⟨v10.heap.size, 1, none⟩ = some (.slice A10 m10 c10) := (Bm_11.cell 1).trans rfl
  have m_11_f1 := Bm_11.frozen 1
  have kwa_11 := kwa_10.below st11
  have kwb_11 := kwb_10.below st11
  have kwc_11 := kwc_10.below st11
  have kwd_11 := kwd_10.below st11
  have kn_11 := kn_10.below st11
  have km_11 := k10.below st11
  go_wp2_with fail
  refine (short2_c _ _ _ _ _ _ km_11).mono ?_; rintro e v12 ⟨rfl, hb12⟩
  rw [NM.out, BM.out]
  have st12 := bl_step (Below.refl _ _) hb12
  have bl12 := bl_step bl11 st12
  clear wa_11_z wa_11_c0 wa_11_f0 wa_11_c1 wa_11_f1
  have Bwa_12 := Bwa_11.below st12
  clear wb_11_z wb_11_c0 wb_11_f0 wb_11_c1 wb_11_f1
  have Bwb_12 := Bwb_11.below st12
  clear wc_11_z wc_11_c0 wc_11_f0 wc_11_c1 wc_11_f1
  have Bwc_12 := Bwc_11.below st12
  clear wd_11_z wd_11_c0 wd_11_f0 wd_11_c1 wd_11_f1
  have Bwd_12 := Bwd_11.below st12
  clear n_11_z n_11_c0 n_11_f0 n_11_c1 n_11_f1
  have Bn_12 := Bn_11.below st12
  clear m_11_z m_11_c0 m_11_f0 m_11_c1 m_11_f1
  have Bm_12 := Bm_11.below st12
  have wa_12_z : v5.heap.size < v12.heap.size := Bwa_12.lt
  have wa_12_c0 : v12.cell? ⟨v5.heap.size, 0, none⟩ = some (.bool n5) := (Bwa_12.cell 0).trans rfl
  have wa_12_f0 := Bwa_12.frozen 0
  have wa_12_c1 : v12.cell? ⟨v5.heap.size, 1, none⟩ = some (.slice A5 m5 c5) := (Bwa_12.cell 1).trans rfl
  have wa_12_f1 := Bwa_12.frozen 1
  have wb_12_z : v6.heap.size < v12.heap.size := Bwb_12.lt
  have wb_12_c0 : v12.cell? ⟨v6.heap.size, 0, none⟩ = some (.bool n6) := (Bwb_12.cell 0).trans rfl
  have wb_12_f0 := Bwb_12.frozen 0
  have wb_12_c1 : v12.cell? ⟨v6.heap.size, 1, none⟩ = some (.slice A6 m6 c6) := (Bwb_12.cell 1).trans rfl
  have wb_12_f1 := Bwb_12.frozen 1
  have wc_12_z : v7.heap.size < v12.heap.size := Bwc_12.lt
  have wc_12_c0 : v12.cell? ⟨v7.heap.size, 0, none⟩ = some (.bool n7) := (Bwc_12.cell 0).trans rfl
  have wc_12_f0 := Bwc_12.frozen 0
  have wc_12_c1 : v12.cell? ⟨v7.heap.size, 1, none⟩ = some (.slice A7 m7 c7) := (Bwc_12.cell 1).trans rfl
  have wc_12_f1 := Bwc_12.frozen 1
  have wd_12_z : v8.heap.size < v12.heap.size := Bwd_12.lt
  have wd_12_c0 : v12.cell? ⟨v8.heap.size, 0, none⟩ = some (.bool n8) := (Bwd_12.cell 0).trans rfl
  have wd_12_f0 := Bwd_12.frozen 0
  have wd_12_c1 : v12.cell? ⟨v8.heap.size, 1, none⟩ = some (.slice A8 m8 c8) := (Bwd_12.cell 1).trans rfl
  have wd_12_f1 := Bwd_12.frozen 1
  have n_12_z : v9.heap.size < v12.heap.size := Bn_12.lt
  have n_12_c0 : v12.cell? ⟨v9.heap.size, 0, none⟩ = some (.bool n9) := (Bn_12.cell 0).trans rfl
  have n_12_f0 := Bn_12.frozen 0
  have n_12_c1 : v12.cell? ⟨v9.heap.size, 1, none⟩ = some (.slice A9 m9 c9) := (Bn_12.cell 1).trans rfl
  have n_12_f1 := Bn_12.frozen 1
  have m_12_z : v10.heap.size < v12.heap.size := Bm_12.lt
  have m_12_c0 : v12.cell? ⟨v10.heap.size, 0, none⟩ = some (.bool n10) := (Bm_12.cell 0).trans rfl
  have m_12_f0 := Bm_12.frozen 0
  have m_12_c1 : v12.cell? ⟨v10.heap.size, 1, none⟩ = some (.slice A10 m10 c10) := (Bm_12.cell 1).trans rfl
  have m_12_f1 := Bm_12.frozen 1
  have kwa_12 := kwa_11.below st12
  have kwb_12 := kwb_11.below st12
  have kwc_12 := kwc_11.below st12
  have kwd_12 := kwd_11.below st12
  have kn_12 := kn_11.below st12
  have km_12 := km_11.below st12
  cases x4
  · go_wp2
    go_ret3
    exact ⟨rfl, bl12⟩
  · cases x5
    · go_wp2
      go_ret3
      exact ⟨rfl, bl12⟩
    · go_wp2_with fail
      refine (H6.out _).mono ?_; rintro e y1 ⟨rfl, hy1⟩
      have bly := bl_step bl12 hy1
      go_wp2
      go_ret3
      exact ⟨rfl, bly⟩
theorem badd_no (a b c d : Int) (w : World) (x y : Bool) (hxy : (x && y) = false) (HE : (Hid (∀ w, Calls Tryd.prog 15 #[.int .i64 a, .int .i64 b] w fun e w' => e = .returned (.bool x) ∧ Below w.heap.size w w'))) (HF : (Hid (∀ w, Calls Tryd.prog 15 #[.int .i64 c, .int .i64 d] w fun e w' => e = .returned (.bool y) ∧ Below w.heap.size w w'))) :
    Calls Tryd.prog 28 #[.int .i64 a, .int .i64 b, .int .i64 c, .int .i64 d] w fun e w' => e = .returned (.tuple #[.int .i64 0, .int .i64 0, .bool false]) ∧ Below w.heap.size w w' := by
  cases x <;> cases y
  · clear hxy
    go_enter Tryd.func28, Tryd.ntmps28
    go_wp2_with fail
    refine (HE.out _).mono ?_; rintro e v1 ⟨rfl, hb1⟩
    have st1 := bl_step (Below.refl _ _) hb1
    have bl1 := st1
    go_wp2_with fail
    refine (HF.out _).mono ?_; rintro e v2 ⟨rfl, hb2⟩
    have st2 := bl_step (Below.refl _ _) hb2
    have bl2 := bl_step bl1 st2
    go_wp2
    go_ret3
    exact ⟨rfl, bl2⟩
  · clear hxy
    go_enter Tryd.func28, Tryd.ntmps28
    go_wp2_with fail
    refine (HE.out _).mono ?_; rintro e v1 ⟨rfl, hb1⟩
    have st1 := bl_step (Below.refl _ _) hb1
    have bl1 := st1
    go_wp2_with fail
    refine (HF.out _).mono ?_; rintro e v2 ⟨rfl, hb2⟩
    have st2 := bl_step (Below.refl _ _) hb2
    have bl2 := bl_step bl1 st2
    go_wp2
    go_ret3
    exact ⟨rfl, bl2⟩
  · clear hxy
    go_enter Tryd.func28, Tryd.ntmps28
    go_wp2_with fail
    refine (HE.out _).mono ?_; rintro e v1 ⟨rfl, hb1⟩
    have st1 := bl_step (Below.refl _ _) hb1
    have bl1 := st1
    go_wp2_with fail
    refine (HF.out _).mono ?_; rintro e v2 ⟨rfl, hb2⟩
    have st2 := bl_step (Below.refl _ _) hb2
    have bl2 := bl_step bl1 st2
    go_wp2
    go_ret3
    exact ⟨rfl, bl2⟩
  · cases hxy
theorem bmul_no (a b c d : Int) (w : World) (x y : Bool) (hxy : (x && y) = false) (HE : (Hid (∀ w, Calls Tryd.prog 15 #[.int .i64 a, .int .i64 b] w fun e w' => e = .returned (.bool x) ∧ Below w.heap.size w w'))) (HF : (Hid (∀ w, Calls Tryd.prog 15 #[.int .i64 c, .int .i64 d] w fun e w' => e = .returned (.bool y) ∧ Below w.heap.size w w'))) :
    Calls Tryd.prog 30 #[.int .i64 a, .int .i64 b, .int .i64 c, .int .i64 d] w fun e w' => e = .returned (.tuple #[.int .i64 0, .int .i64 0, .bool false]) ∧ Below w.heap.size w w' := by
  cases x <;> cases y
  · clear hxy
    go_enter Tryd.func30, Tryd.ntmps30
    go_wp2_with fail
    refine (HE.out _).mono ?_; rintro e v1 ⟨rfl, hb1⟩
    have st1 := bl_step (Below.refl _ _) hb1
    have bl1 := st1
    go_wp2_with fail
    refine (HF.out _).mono ?_; rintro e v2 ⟨rfl, hb2⟩
    have st2 := bl_step (Below.refl _ _) hb2
    have bl2 := bl_step bl1 st2
    go_wp2
    go_ret3
    exact ⟨rfl, bl2⟩
  · clear hxy
    go_enter Tryd.func30, Tryd.ntmps30
    go_wp2_with fail
    refine (HE.out _).mono ?_; rintro e v1 ⟨rfl, hb1⟩
    have st1 := bl_step (Below.refl _ _) hb1
    have bl1 := st1
    go_wp2_with fail
    refine (HF.out _).mono ?_; rintro e v2 ⟨rfl, hb2⟩
    have st2 := bl_step (Below.refl _ _) hb2
    have bl2 := bl_step bl1 st2
    go_wp2
    go_ret3
    exact ⟨rfl, bl2⟩
  · clear hxy
    go_enter Tryd.func30, Tryd.ntmps30
    go_wp2_with fail
    refine (HE.out _).mono ?_; rintro e v1 ⟨rfl, hb1⟩
    have st1 := bl_step (Below.refl _ _) hb1
    have bl1 := st1
    go_wp2_with fail
    refine (HF.out _).mono ?_; rintro e v2 ⟨rfl, hb2⟩
    have st2 := bl_step (Below.refl _ _) hb2
    have bl2 := bl_step bl1 st2
    go_wp2
    go_ret3
    exact ⟨rfl, bl2⟩
  · cases hxy
theorem bgcd_fit (a : Int) {b : Int} (h : 0 < b) (ia : InI a) (ib : InI b) (w : World) :
    Calls Tryd.prog 40 #[.int .i64 a, .int .i64 b] w fun e w' => e = .returned (.tuple #[.int .i64 (gd a b), .bool true]) ∧ Below w.heap.size w w' := by
  have h1 := bgcd_c a b w ia ib
  rw [fitN_of (gd_in a h ib).1, fitB_iff.2 (gd_in a h ib).1] at h1
  exact h1
theorem badd_any (a b c d : Int) (w : World) (ia : InI a) (ib : InI b) (ic : InI c) (id : InI d) :
    Calls Tryd.prog 28 #[.int .i64 a, .int .i64 b, .int .i64 c, .int .i64 d] w fun e w' => e = .returned (.tuple #[.int .i64 (addN a b c d), .int .i64 (addD a b c d), .bool (addB a b c d)]) ∧ Below w.heap.size w w' := by
  have HE := fun w => bgood_any a b w ia ib
  have HF := fun w => bgood_any c d w ic id
  cases hg : (goodB a b && goodB c d)
  · have hok : addOk a b c d = false := by unfold addOk; rw [hg]; rfl
    unfold addB addN addD
    rw [hok]
    exact badd_no a b c d w _ _ hg (Lib.hid HE) (Lib.hid HF)
  · simp only [Bool.and_eq_true] at hg
    rw [hg.1] at HE
    rw [hg.2] at HF
    have b0 := good_pos hg.1
    have d0 := good_pos hg.2
    obtain ⟨ig, g0⟩ := gd_in b d0 id
    have ip := ediv_in ib g0 (gd_dvd_left b d)
    have iq := ediv_in id g0 (gd_dvd_right b d)
    have hgz : (gd b d == 0) = false := by rw [beq_eq_false_iff_ne]; omega
    have hok : addOk a b c d = (((fitB (a * (d / gd b d)) && fitB (c * (b / gd b d))) && fitB (a * (d / gd b d) + c * (b / gd b d))) && fitB (b * (d / gd b d))) := by unfold addOk; rw [hg.1, hg.2]; rfl
    have h := badd_core a b c d (gd b d) (b / gd b d) (d / gd b d) (fitN (a * (d / gd b d))) (fitN (c * (b / gd b d))) (fitN (a * (d / gd b d) + c * (b / gd b d))) (fitN (b * (d / gd b d))) _ _ _ _ _ _ _ w ia ib ic id ip iq hgz (by omega) (tdiv_gd_left b d) (tdiv_gd_right b d)
      (Lib.hid rfl) (Lib.hid rfl) (Lib.hid rfl) (Lib.hid rfl) (Lib.hid rfl) (Lib.hid rfl) (Lib.hid rfl) (Lib.hid rfl) (Lib.hid HE) (Lib.hid HF) (Lib.hid fun w => bgcd_fit b d0 ib id w) (Lib.hid fun w => bmake_any _ _ w (fitN_in _) (fitN_in _))
    rw [← hok] at h
    unfold addB addN addD
    cases hx : addOk a b c d
    · rw [hx] at h; exact h
    · rw [hok] at hx
      simp only [Bool.and_eq_true] at hx
      rw [hok, hx.1.1.1, hx.1.1.2, hx.1.2, hx.2] at h
      rw [fitN_yes hx.1.2, fitN_yes hx.2] at h
      exact h
theorem bmul_any (a b c d : Int) (w : World) (ia : InI a) (ib : InI b) (ic : InI c) (id : InI d) :
    Calls Tryd.prog 30 #[.int .i64 a, .int .i64 b, .int .i64 c, .int .i64 d] w fun e w' => e = .returned (.tuple #[.int .i64 (mulN a b c d), .int .i64 (mulD a b c d), .bool (mulB a b c d)]) ∧ Below w.heap.size w w' := by
  have HE := fun w => bgood_any a b w ia ib
  have HF := fun w => bgood_any c d w ic id
  cases hg : (goodB a b && goodB c d)
  · have hok : mulOk a b c d = false := by unfold mulOk; rw [hg]; rfl
    unfold mulB mulN mulD
    rw [hok]
    exact bmul_no a b c d w _ _ hg (Lib.hid HE) (Lib.hid HF)
  · simp only [Bool.and_eq_true] at hg
    rw [hg.1] at HE
    rw [hg.2] at HF
    have b0 := good_pos hg.1
    have d0 := good_pos hg.2
    obtain ⟨ig, g0⟩ := gd_in a d0 id
    obtain ⟨ih, h0⟩ := gd_in c b0 ib
    have ip := ediv_in ia g0 (gd_dvd_left a d)
    have iq := ediv_in ic h0 (gd_dvd_left c b)
    have ir := ediv_in ib h0 (gd_dvd_right c b)
    have is := ediv_in id g0 (gd_dvd_right a d)
    have hgz : (gd a d == 0) = false := by rw [beq_eq_false_iff_ne]; omega
    have hhz : (gd c b == 0) = false := by rw [beq_eq_false_iff_ne]; omega
    have hok : mulOk a b c d = (fitB ((a / gd a d) * (c / gd c b)) && fitB ((b / gd c b) * (d / gd a d))) := by unfold mulOk; rw [hg.1, hg.2]; rfl
    have h := bmul_core a b c d (gd a d) (gd c b) (a / gd a d) (c / gd c b) (b / gd c b) (d / gd a d) (fitN ((a / gd a d) * (c / gd c b))) (fitN ((b / gd c b) * (d / gd a d))) _ _ _ _ _ w ip iq ir is hgz (by omega) hhz (by omega) (tdiv_gd_left a d) (tdiv_gd_left c b) (tdiv_gd_right c b) (tdiv_gd_right a d)
      (Lib.hid rfl) (Lib.hid rfl) (Lib.hid rfl) (Lib.hid rfl) (Lib.hid HE) (Lib.hid HF) (Lib.hid fun w => bgcd_fit a d0 ia id w) (Lib.hid fun w => bgcd_fit c b0 ic ib w) (Lib.hid fun w => bmake_any _ _ w (fitN_in _) (fitN_in _))
    rw [← hok] at h
    unfold mulB mulN mulD
    cases hx : mulOk a b c d
    · rw [hx] at h; exact h
    · rw [hok] at hx
      simp only [Bool.and_eq_true] at hx
      rw [hok, hx.1, hx.2] at h
      rw [fitN_yes hx.1, fitN_yes hx.2] at h
      exact h
end Go.Proofs.YtkdklmkcanjjfaaDoor
