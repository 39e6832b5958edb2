/- The walks of the reference for layer 2, part B: Make, Good. -/
import Derived.Test.YtkdklmkcanjjfaaDoorRefI
import Derived.Test.YtkdklmkcanjjfaaDoorRatA
namespace Go.Proofs.YtkdklmkcanjjfaaDoor
open Go.RowKit
set_option linter.unusedVariables false
set_option linter.unusedSimpArgs false
set_option maxRecDepth 100000

theorem bgcd_c (a b : Int) (w : World) (ha : InI a) (hb : InI b) :
    Calls Tryd.prog 40 #[.int .i64 a, .int .i64 b] w fun e w' => e = .returned (.tuple #[.int .i64 (fitN (gd a b)), .bool (fitB (gd a b))]) ∧ Below w.heap.size w w' := BGcd_any a b w ha hb

theorem bmake_zero (n : Int) (w : World) : Calls Tryd.prog 12 #[.int .i64 n, .int .i64 0] w fun e w' => e = .returned (.tuple #[.int .i64 (mkN n 0), .int .i64 (mkD n 0), .bool (mkB n 0)]) ∧ Below w.heap.size w w' := by
  go_enter Tryd.func12, Tryd.ntmps12
  go_wp2
  go_ret3
  exact ⟨rfl, Below.refl _ _⟩
theorem bmake_nought (d : Int) (w : World) (h0 : (d == 0) = false) : Calls Tryd.prog 12 #[.int .i64 0, .int .i64 d] w fun e w' => e = .returned (.tuple #[.int .i64 0, .int .i64 1, .bool true]) ∧ Below w.heap.size w w' := by
  go_enter Tryd.func12, Tryd.ntmps12
  go_wp2
  go_ret3
  exact ⟨rfl, Below.refl _ _⟩
theorem bmake_same (d : Int) (w : World) (h0 : (d == 0) = false) : Calls Tryd.prog 12 #[.int .i64 d, .int .i64 d] w fun e w' => e = .returned (.tuple #[.int .i64 1, .int .i64 1, .bool true]) ∧ Below w.heap.size w w' := by
  go_enter Tryd.func12, Tryd.ntmps12
  go_wp2
  go_ret3
  exact ⟨rfl, Below.refl _ _⟩
set_option maxHeartbeats 1600000 in
theorem bmake_pos (n d g P Q : Int) (w : World) (hn : InI n) (hd : InI d) (hn0 : (n == 0) = false) (hd0 : (d == 0) = false) (hnd : (n == d) = false) (hlt : 0 < d) (hg : gd n d = g) (hf : InI g) (g0 : 0 < g) (iP : InI P) (iQ : InI Q) (hP : n.tdiv g = P) (hQ : d.tdiv g = Q) :
    Calls Tryd.prog 12 #[.int .i64 n, .int .i64 d] w fun e w' => e = .returned (.tuple #[.int .i64 P, .int .i64 Q, .bool true]) ∧ Below w.heap.size w w' := by
  have HG := Lib.hid (fun w => bgcd_c n d w hn hd)
  rw [hg, fitN_of hf, fitB_iff.2 hf] at HG
  have HGZ : Hid ((g == 0) = false) := Lib.hid (by rw [beq_eq_false_iff_ne]; omega)
  have HPF : Hid ((fitN P = P ∧ fitB P = true) ∧ (fitN Q = Q ∧ fitB Q = true)) := Lib.hid ⟨⟨fitN_of iP, fitB_iff.2 iP⟩, fitN_of iQ, fitB_iff.2 iQ⟩
  obtain ⟨f1, f2⟩ := hf
  have IP := Lib.hid iP
  have IQ := Lib.hid iQ
  obtain ⟨P1, P2⟩ := iP
  obtain ⟨Q1, Q2⟩ := iQ
  clear hg
  go_enter Tryd.func12, Tryd.ntmps12
  go_wp2_with fail
  refine (HG.out _).mono ?_; rintro e v1 ⟨rfl, hb1⟩
  have st1 := bl_step (Below.refl _ _) hb1
  have bl1 := st1
  have hgz : (g == 0) = false := HGZ.out
  go_wp2_with fail
  refine (Of_any _ _ IP.out).mono ?_; rintro e v2 ⟨n2, A2, m2, c2, rfl, k2, hb2⟩
  have st2 := bl_step (Below.refl _ _) hb2
  have bl2 := bl_step bl1 st2
  go_wp2_with fail
  refine (Of_any _ _ IQ.out).mono ?_; rintro e v3 ⟨n3, A3, m3, c3, rfl, k3, hb3⟩
  have st3 := bl_step (bl_alloc (Below.refl _ _) _) hb3
  have bl3 := bl_step bl2 st3
  have Bp_3 : Blk v3 (v2.heap.size) 59 #[.bool n2, .slice A2 m2 c2] := (Blk.new _ _ _).below hb3
  have p_3_z : v2.heap.size < v3.heap.size := Bp_3.lt
  have p_3_c0 : v3.cell? ⟨v2.heap.size, 0, none⟩ = some (.bool n2) := (Bp_3.cell 0).trans rfl
  have p_3_f0 := Bp_3.frozen 0
  have p_3_c1 : v3.cell? ⟨v2.heap.size, 1, none⟩ = some (.slice A2 m2 c2) := (Bp_3.cell 1).trans rfl
  have p_3_f1 := Bp_3.frozen 1
  have p_3 := k2.below st3
  go_wp2_with fail
  refine (Short_any _ _ _ _ _ _ (p_3.below (bl_alloc (Below.refl _ _) _))).mono ?_; rintro e v4 ⟨rfl, hb4⟩; rw [HPF.out.1.1, HPF.out.1.2]
  have st4 := bl_step (bl_alloc (Below.refl _ _) _) hb4
  have bl4 := bl_step bl3 st4
  have Bq_4 : Blk v4 (v3.heap.size) 59 #[.bool n3, .slice A3 m3 c3] := (Blk.new _ _ _).below hb4
  clear p_3_z p_3_c0 p_3_f0 p_3_c1 p_3_f1
  have Bp_4 := Bp_3.below st4
  have p_4_z : v2.heap.size < v4.heap.size := Bp_4.lt
  have p_4_c0 : v4.cell? ⟨v2.heap.size, 0, none⟩ = some (.bool n2) := (Bp_4.cell 0).trans rfl
  have p_4_f0 := Bp_4.frozen 0
  have p_4_c1 : v4.cell? ⟨v2.heap.size, 1, none⟩ = some (.slice A2 m2 c2) := (Bp_4.cell 1).trans rfl
  have p_4_f1 := Bp_4.frozen 1
  have q_4_z : v3.heap.size < v4.heap.size := Bq_4.lt
  have q_4_c0 : v4.cell? ⟨v3.heap.size, 0, none⟩ = some (.bool n3) := (Bq_4.cell 0).trans rfl
  have q_4_f0 := Bq_4.frozen 0
  have q_4_c1 : v4.cell? ⟨v3.heap.size, 1, none⟩ = some (.slice A3 m3 c3) := (Bq_4.cell 1).trans rfl
  have q_4_f1 := Bq_4.frozen 1
  have p_4 := p_3.below st4
  have q_4 := k3.below st4
  go_wp2_with fail
  refine (Short_any _ _ _ _ _ _ q_4).mono ?_; rintro e v5 ⟨rfl, hb5⟩; rw [HPF.out.2.1, HPF.out.2.2]
  have st5 := bl_step (Below.refl _ _) hb5
  have bl5 := bl_step bl4 st5
  clear p_4_z p_4_c0 p_4_f0 p_4_c1 p_4_f1
  have Bp_5 := Bp_4.below st5
  clear q_4_z q_4_c0 q_4_f0 q_4_c1 q_4_f1
  have Bq_5 := Bq_4.below st5
  have p_5_z : v2.heap.size < v5.heap.size := Bp_5.lt
  have p_5_c0 : v5.cell? ⟨v2.heap.size, 0, none⟩ = some (.bool n2) := (Bp_5.cell 0).trans rfl
  have p_5_f0 := Bp_5.frozen 0
  have p_5_c1 : v5.cell? ⟨v2.heap.size, 1, none⟩ = some (.slice A2 m2 c2) := (Bp_5.cell 1).trans rfl
  have p_5_f1 := Bp_5.frozen 1
  have q_5_z : v3.heap.size < v5.heap.size := Bq_5.lt
  have q_5_c0 : v5.cell? ⟨v3.heap.size, 0, none⟩ = some (.bool n3) := (Bq_5.cell 0).trans rfl
  have q_5_f0 := Bq_5.frozen 0
  have q_5_c1 : v5.cell? ⟨v3.heap.size, 1, none⟩ = some (.slice A3 m3 c3) := (Bq_5.cell 1).trans rfl
  have q_5_f1 := Bq_5.frozen 1
  have p_5 := p_4.below st5
  have q_5 := q_4.below st5
  go_wp2
  go_ret3
  exact ⟨rfl, bl5⟩
set_option maxHeartbeats 1600000 in
theorem bmake_neg (n d g P Q : Int) (w : World) (hn : InI n) (hd : InI d) (hn0 : (n == 0) = false) (hd0 : (d == 0) = false) (hnd : (n == d) = false) (hlt : d < 0) (hg : gd n d = g) (hf : InI g) (g0 : 0 < g) (iP : InI P) (iQ : InI Q) (hP : n.tdiv g = P) (hQ : d.tdiv g = Q) (x y : Bool) (p q : Int) (hx : fitB (-P) = x) (hy : fitB (-Q) = y) (hp : fitN (-P) = p) (hq : fitN (-Q) = q) :
    Calls Tryd.prog 12 #[.int .i64 n, .int .i64 d] w fun e w' => e = .returned (.tuple #[.int .i64 (if (x && y) = true then p else 0), .int .i64 (if (x && y) = true then q else 0), .bool (x && y)]) ∧ Below w.heap.size w w' := by
  have HG := Lib.hid (fun w => bgcd_c n d w hn hd)
  rw [hg, fitN_of hf, fitB_iff.2 hf] at HG
  have HGZ : Hid ((g == 0) = false) := Lib.hid (by rw [beq_eq_false_iff_ne]; omega)
  have HX := Lib.hid hx
  have HY := Lib.hid hy
  have HP := Lib.hid hp
  have HQ := Lib.hid hq
  obtain ⟨f1, f2⟩ := hf
  have IP := Lib.hid iP
  have IQ := Lib.hid iQ
  obtain ⟨P1, P2⟩ := iP
  obtain ⟨Q1, Q2⟩ := iQ
  clear hg hx hy hp hq
  go_enter Tryd.func12, Tryd.ntmps12
  go_wp2_with fail
  refine (HG.out _).mono ?_; rintro e v1 ⟨rfl, hb1⟩
  have st1 := bl_step (Below.refl _ _) hb1
  have bl1 := st1
  have hgz : (g == 0) = false := HGZ.out
  go_wp2_with fail
  refine (Of_any _ _ IP.out).mono ?_; rintro e v2 ⟨n2, A2, m2, c2, rfl, k2, hb2⟩
  have st2 := bl_step (Below.refl _ _) hb2
  have bl2 := bl_step bl1 st2
  go_wp2_with fail
  refine (Of_any _ _ IQ.out).mono ?_; rintro e v3 ⟨n3, A3, m3, c3, rfl, k3, hb3⟩
  have st3 := bl_step (bl_alloc (Below.refl _ _) _) hb3
  have bl3 := bl_step bl2 st3
  have Bp_3 : Blk v3 (v2.heap.size) 59 #[.bool n2, .slice A2 m2 c2] := (Blk.new _ _ _).below hb3
  have p_3_z : v2.heap.size < v3.heap.size := Bp_3.lt
  have p_3_c0 : v3.cell? ⟨v2.heap.size, 0, none⟩ = some (.bool n2) := (Bp_3.cell 0).trans rfl
  have p_3_f0 := Bp_3.frozen 0
  have p_3_c1 : v3.cell? ⟨v2.heap.size, 1, none⟩ = some (.slice A2 m2 c2) := (Bp_3.cell 1).trans rfl
  have p_3_f1 := Bp_3.frozen 1
  have p_3 := k2.below st3
  go_wp2_with fail
  refine (Opposite_any _ _ _ _ _ _ (p_3.below (bl_alloc (Below.refl _ _) _))).mono ?_; rintro e v4 ⟨n4, A4, m4, c4, rfl, k4, hb4⟩
  have st4 := bl_step (bl_alloc (Below.refl _ _) _) hb4
  have bl4 := bl_step bl3 st4
  have Bq_4 : Blk v4 (v3.heap.size) 59 #[.bool n3, .slice A3 m3 c3] := (Blk.new _ _ _).below hb4
  clear p_3_z p_3_c0 p_3_f0 p_3_c1 p_3_f1
  have Bp_4 := Bp_3.below st4
  have p_4_z : v2.heap.size < v4.heap.size := Bp_4.lt
  have p_4_c0 : v4.cell? ⟨v2.heap.size, 0, none⟩ = some (.bool n2) := (Bp_4.cell 0).trans rfl
  have p_4_f0 := Bp_4.frozen 0
  have p_4_c1 : v4.cell? ⟨v2.heap.size, 1, none⟩ = some (.slice A2 m2 c2) := (Bp_4.cell 1).trans rfl
  have p_4_f1 := Bp_4.frozen 1
  have q_4_z : v3.heap.size < v4.heap.size := Bq_4.lt
  have q_4_c0 : v4.cell? ⟨v3.heap.size, 0, none⟩ = some (.bool n3) := (Bq_4.cell 0).trans rfl
  have q_4_f0 := Bq_4.frozen 0
  have q_4_c1 : v4.cell? ⟨v3.heap.size, 1, none⟩ = some (.slice A3 m3 c3) := (Bq_4.cell 1).trans rfl
  have q_4_f1 := Bq_4.frozen 1
  have p_4 := p_3.below st4
  have q_4 := k3.below st4
  have ne_q_p_4 : ¬ v3.heap.size = v2.heap.size := by have := Bp_3.lt; omega
  have en_q_p_4 : ¬ v2.heap.size = v3.heap.size := fun h => ne_q_p_4 h.symm
  go_wp2_with fail
  have lo_p_4 : w.heap.size ≤ v2.heap.size := by have := bl2.size; omega
  have ZKp_4 := (p_4.set_ (p := ⟨v2.heap.size, 0, none⟩) Bp_4 (by decide) (.bool n4)).set_ (p := ⟨v2.heap.size, 1, none⟩) (Bp_4.put 0 _ rfl) (by decide) (.slice A4 m4 c4)
  have ZKq_4 := (q_4.set_ (p := ⟨v2.heap.size, 0, none⟩) Bp_4 (by decide) (.bool n4)).set_ (p := ⟨v2.heap.size, 1, none⟩) (Bp_4.put 0 _ rfl) (by decide) (.slice A4 m4 c4)
  have ZKp2_4 := (k4.set_ (p := ⟨v2.heap.size, 0, none⟩) Bp_4 (by decide) (.bool n4)).set_ (p := ⟨v2.heap.size, 1, none⟩) (Bp_4.put 0 _ rfl) (by decide) (.slice A4 m4 c4)
  have Zq_4 := (Bq_4.far (p := ⟨v2.heap.size, 0, none⟩) (by exact ne_q_p_4) (.bool n4)).far (p := ⟨v2.heap.size, 1, none⟩) (by exact ne_q_p_4) (.slice A4 m4 c4)
  have Zp_4 := (Bp_4.put 0 (.bool n4) rfl).put 1 (.slice A4 m4 c4) rfl
  have bl4 := bl_set (bl_set bl4 (p := ⟨v2.heap.size, 0, none⟩) (by exact lo_p_4) (.bool n4)) (p := ⟨v2.heap.size, 1, none⟩) (by exact lo_p_4) (.slice A4 m4 c4)
  clear p_4_z p_4_c0 p_4_f0 p_4_c1 p_4_f1
  clear q_4_z q_4_c0 q_4_f0 q_4_c1 q_4_f1
  generalize (v4.setCell ⟨v2.heap.size, 0, none⟩ (.bool n4)).setCell ⟨v2.heap.size, 1, none⟩ (.slice A4 m4 c4) = z4 at ZKp_4 ZKq_4 ZKp2_4 Zq_4 Zp_4 bl4 ⊢
  have p_s4_z : v2.heap.size < z4.heap.size := Zp_4.lt
  have p_s4_c0 : z4.cell? ⟨v2.heap.size, 0, none⟩ = some (.bool n4) := (Zp_4.cell 0).trans rfl
  have p_s4_f0 := Zp_4.frozen 0
  have p_s4_c1 : z4.cell? ⟨v2.heap.size, 1, none⟩ = some (.slice A4 m4 c4) := (Zp_4.cell 1).trans rfl
  have p_s4_f1 := Zp_4.frozen 1
  have q_s4_z : v3.heap.size < z4.heap.size := Zq_4.lt
  have q_s4_c0 : z4.cell? ⟨v3.heap.size, 0, none⟩ = some (.bool n3) := (Zq_4.cell 0).trans rfl
  have q_s4_f0 := Zq_4.frozen 0
  have q_s4_c1 : z4.cell? ⟨v3.heap.size, 1, none⟩ = some (.slice A3 m3 c3) := (Zq_4.cell 1).trans rfl
  have q_s4_f1 := Zq_4.frozen 1
  refine (Opposite_any _ _ _ _ _ _ ZKq_4).mono ?_; rintro e v5 ⟨n5, A5, m5, c5, rfl, k5, hb5⟩
  have st5 := bl_step (Below.refl _ _) hb5
  have bl5 := bl_step bl4 st5
  clear p_s4_z p_s4_c0 p_s4_f0 p_s4_c1 p_s4_f1
  have Bp_5 := Zp_4.below st5
  clear q_s4_z q_s4_c0 q_s4_f0 q_s4_c1 q_s4_f1
  have Bq_5 := Zq_4.below st5
  have p_5_z : v2.heap.size < v5.heap.size := Bp_5.lt
  have p_5_c0 : v5.cell? ⟨v2.heap.size, 0, none⟩ = some (.bool n4) := (Bp_5.cell 0).trans rfl
  have p_5_f0 := Bp_5.frozen 0
  have p_5_c1 : v5.cell? ⟨v2.heap.size, 1, none⟩ = some (.slice A4 m4 c4) := (Bp_5.cell 1).trans rfl
  have p_5_f1 := Bp_5.frozen 1
  have q_5_z : v3.heap.size < v5.heap.size := Bq_5.lt
  have q_5_c0 : v5.cell? ⟨v3.heap.size, 0, none⟩ = some (.bool n3) := (Bq_5.cell 0).trans rfl
  have q_5_f0 := Bq_5.frozen 0
  have q_5_c1 : v5.cell? ⟨v3.heap.size, 1, none⟩ = some (.slice A3 m3 c3) := (Bq_5.cell 1).trans rfl
  have q_5_f1 := Bq_5.frozen 1
  have p_5 := ZKp_4.below st5
  have q_5 := ZKq_4.below st5
  have p2_5 := ZKp2_4.below st5
  have ne_p_q_5 : ¬ v2.heap.size = v3.heap.size := by have := Bp_3.lt; omega
  have en_p_q_5 : ¬ v3.heap.size = v2.heap.size := fun h => ne_p_q_5 h.symm
  go_wp2_with fail
  have lo_q_5 : w.heap.size ≤ v3.heap.size := by have := bl3.size; omega
  have ZKp_5 := (p_5.set_ (p := ⟨v3.heap.size, 0, none⟩) Bq_5 (by decide) (.bool n5)).set_ (p := ⟨v3.heap.size, 1, none⟩) (Bq_5.put 0 _ rfl) (by decide) (.slice A5 m5 c5)
  have ZKq_5 := (q_5.set_ (p := ⟨v3.heap.size, 0, none⟩) Bq_5 (by decide) (.bool n5)).set_ (p := ⟨v3.heap.size, 1, none⟩) (Bq_5.put 0 _ rfl) (by decide) (.slice A5 m5 c5)
  have ZKp2_5 := (p2_5.set_ (p := ⟨v3.heap.size, 0, none⟩) Bq_5 (by decide) (.bool n5)).set_ (p := ⟨v3.heap.size, 1, none⟩) (Bq_5.put 0 _ rfl) (by decide) (.slice A5 m5 c5)
  have ZKq2_5 := (k5.set_ (p := ⟨v3.heap.size, 0, none⟩) Bq_5 (by decide) (.bool n5)).set_ (p := ⟨v3.heap.size, 1, none⟩) (Bq_5.put 0 _ rfl) (by decide) (.slice A5 m5 c5)
  have Zp_5 := (Bp_5.far (p := ⟨v3.heap.size, 0, none⟩) (by exact ne_p_q_5) (.bool n5)).far (p := ⟨v3.heap.size, 1, none⟩) (by exact ne_p_q_5) (.slice A5 m5 c5)
  have Zq_5 := (Bq_5.put 0 (.bool n5) rfl).put 1 (.slice A5 m5 c5) rfl
  have bl5 := bl_set (bl_set bl5 (p := ⟨v3.heap.size, 0, none⟩) (by exact lo_q_5) (.bool n5)) (p := ⟨v3.heap.size, 1, none⟩) (by exact lo_q_5) (.slice A5 m5 c5)
  clear p_5_z p_5_c0 p_5_f0 p_5_c1 p_5_f1
  clear q_5_z q_5_c0 q_5_f0 q_5_c1 q_5_f1
  generalize (v5.setCell ⟨v3.heap.size, 0, none⟩ (.bool n5)).setCell ⟨v3.heap.size, 1, none⟩ (.slice A5 m5 c5) = z5 at ZKp_5 ZKq_5 ZKp2_5 ZKq2_5 Zp_5 Zq_5 bl5 ⊢
  have p_s5_z : v2.heap.size < z5.heap.size := Zp_5.lt
  have p_s5_c0 : z5.cell? ⟨v2.heap.size, 0, none⟩ = some (.bool n4) := (Zp_5.cell 0).trans rfl
  have p_s5_f0 := Zp_5.frozen 0
  have p_s5_c1 : z5.cell? ⟨v2.heap.size, 1, none⟩ = some (.slice A4 m4 c4) := (Zp_5.cell 1).trans rfl
  have p_s5_f1 := Zp_5.frozen 1
  have q_s5_z : v3.heap.size < z5.heap.size := Zq_5.lt
  have q_s5_c0 : z5.cell? ⟨v3.heap.size, 0, none⟩ = some (.bool n5) := (Zq_5.cell 0).trans rfl
  have q_s5_f0 := Zq_5.frozen 0
  have q_s5_c1 : z5.cell? ⟨v3.heap.size, 1, none⟩ = some (.slice A5 m5 c5) := (Zq_5.cell 1).trans rfl
  have q_s5_f1 := Zq_5.frozen 1
  refine (Short_any _ _ _ _ _ _ ZKp2_5).mono ?_; rintro e v6 ⟨rfl, hb6⟩; rw [HX.out, HP.out]
  have st6 := bl_step (Below.refl _ _) hb6
  have bl6 := bl_step bl5 st6
  clear p_s5_z p_s5_c0 p_s5_f0 p_s5_c1 p_s5_f1
  have Bp_6 := Zp_5.below st6
  clear q_s5_z q_s5_c0 q_s5_f0 q_s5_c1 q_s5_f1
  have Bq_6 := Zq_5.below st6
  have p_6_z : v2.heap.size < v6.heap.size := Bp_6.lt
  have p_6_c0 : v6.cell? ⟨v2.heap.size, 0, none⟩ = some (.bool n4) := (Bp_6.cell 0).trans rfl
  have p_6_f0 := Bp_6.frozen 0
  have p_6_c1 : v6.cell? ⟨v2.heap.size, 1, none⟩ = some (.slice A4 m4 c4) := (Bp_6.cell 1).trans rfl
  have p_6_f1 := Bp_6.frozen 1
  have q_6_z : v3.heap.size < v6.heap.size := Bq_6.lt
  have q_6_c0 : v6.cell? ⟨v3.heap.size, 0, none⟩ = some (.bool n5) := (Bq_6.cell 0).trans rfl
  have q_6_f0 := Bq_6.frozen 0
  have q_6_c1 : v6.cell? ⟨v3.heap.size, 1, none⟩ = some (.slice A5 m5 c5) := (Bq_6.cell 1).trans rfl
  have q_6_f1 := Bq_6.frozen 1
  have p_6 := ZKp_5.below st6
  have q_6 := ZKq_5.below st6
  have p2_6 := ZKp2_5.below st6
  have q2_6 := ZKq2_5.below st6
  go_wp2_with fail
  refine (Short_any _ _ _ _ _ _ q2_6).mono ?_; rintro e v7 ⟨rfl, hb7⟩; rw [HY.out, HQ.out]
  have st7 := bl_step (Below.refl _ _) hb7
  have bl7 := bl_step bl6 st7
  clear p_6_z p_6_c0 p_6_f0 p_6_c1 p_6_f1
  have Bp_7 := Bp_6.below st7
  clear q_6_z q_6_c0 q_6_f0 q_6_c1 q_6_f1
  have Bq_7 := Bq_6.below st7
  have p_7_z : v2.heap.size < v7.heap.size := Bp_7.lt
  have p_7_c0 : v7.cell? ⟨v2.heap.size, 0, none⟩ = some (.bool n4) := (Bp_7.cell 0).trans rfl
  have p_7_f0 := Bp_7.frozen 0
  have p_7_c1 : v7.cell? ⟨v2.heap.size, 1, none⟩ = some (.slice A4 m4 c4) := (Bp_7.cell 1).trans rfl
  have p_7_f1 := Bp_7.frozen 1
  have q_7_z : v3.heap.size < v7.heap.size := Bq_7.lt
  have q_7_c0 : v7.cell? ⟨v3.heap.size, 0, none⟩ = some (.bool n5) := (Bq_7.cell 0).trans rfl
  have q_7_f0 := Bq_7.frozen 0
  have q_7_c1 : v7.cell? ⟨v3.heap.size, 1, none⟩ = some (.slice A5 m5 c5) := (Bq_7.cell 1).trans rfl
  have q_7_f1 := Bq_7.frozen 1
  have p_7 := p_6.below st7
  have q_7 := q_6.below st7
  have p2_7 := p2_6.below st7
  have q2_7 := q2_6.below st7
  cases x <;> cases y
  all_goals
    go_wp2
    go_ret3
    exact ⟨rfl, bl7⟩
theorem ediv_in {n g : Int} (hn : InI n) (g0 : 0 < g) (h : g ∣ n) : InI (n / g) := by
  have hd : (n / g).natAbs ≤ n.natAbs := by
    have := Int.natAbs_ediv_of_dvd h
    rw [this]; exact Nat.div_le_self _ _
  have h2 : n / g = 0 ∨ (n / g < 0 ↔ n < 0) := by
    by_cases hz : n = 0
    · left; subst hz; simp
    · right
      constructor
      · intro h3
        rcases Int.lt_or_gt_of_ne hz with h4 | h4
        · exact h4
        · have := Int.ediv_nonneg (Int.le_of_lt h4) (Int.le_of_lt g0); omega
      · intro h3; exact Int.ediv_neg_of_neg_of_pos h3 g0
  obtain ⟨a1, a2⟩ := hn
  rcases h2 with h2 | h2
  · rw [h2]; exact ⟨by omega, by omega⟩
  · constructor <;> omega
theorem rg_self (n d : Int) (h : gd n d = d.natAbs) : rg n d = d := by unfold rg; rw [h]; split <;> omega
theorem mk_one (n d q : Int) (h0 : d ≠ 0) (hr : rg n d = d) (hq : n / d = q) (iq : InI q) : mkN n d = q ∧ mkD n d = 1 ∧ mkB n d = true := by
  have hb : mkB n d = true := by
    unfold mkB; rw [hr, hq, Int.ediv_self h0, fitB_iff.2 iq, decide_eq_true h0]; rfl
  unfold mkN mkD
  rw [if_pos hb, if_pos hb, hr, hq, Int.ediv_self h0]
  exact ⟨rfl, rfl, hb⟩
theorem bmake_any (n d : Int) (w : World) (hn : InI n) (hd : InI d) :
    Calls Tryd.prog 12 #[.int .i64 n, .int .i64 d] w fun e w' => e = .returned (.tuple #[.int .i64 (mkN n d), .int .i64 (mkD n d), .bool (mkB n d)]) ∧ Below w.heap.size w w' := by
  by_cases h0 : d = 0
  · subst h0; exact bmake_zero n w
  have hb0 : (d == 0) = false := by simpa using h0
  by_cases hn0 : n = 0
  · subst hn0
    obtain ⟨e1, e2, e3⟩ := mk_one 0 d 0 h0 (rg_self 0 d (by unfold gd; simp)) (by simp) ⟨by omega, by omega⟩
    rw [e1, e2, e3]; exact bmake_nought d w hb0
  by_cases hnd : n = d
  · subst hnd
    obtain ⟨e1, e2, e3⟩ := mk_one n n 1 h0 (rg_self n n (by unfold gd; simp)) (Int.ediv_self h0) ⟨by omega, by omega⟩
    rw [e1, e2, e3]; exact bmake_same n w hb0
  have hbn : (n == 0) = false := by simpa using hn0
  have hbd : (n == d) = false := by simpa using hnd
  have hf : InI (gd n d) := by
    by_cases h : InI (gd n d)
    · exact h
    · obtain ⟨h1, h2⟩ := gd_wide hn hd h0 h
      omega
  have g0 := gd_pos n h0
  have iP := ediv_in hn g0 (gd_dvd_left n d)
  have iQ := ediv_in hd g0 (gd_dvd_right n d)
  have tP := Int.tdiv_eq_ediv_of_dvd (gd_dvd_left n d)
  have tQ := Int.tdiv_eq_ediv_of_dvd (gd_dvd_right n d)
  obtain ⟨e1, e2, e3⟩ := mk_parts n d h0
  rw [e1, e2, e3]
  by_cases hlt : d < 0
  · have hr : rg n d = -gd n d := if_pos hlt
    rw [hr, Int.ediv_neg, Int.ediv_neg]
    exact bmake_neg n d _ _ _ w hn hd hbn hb0 hbd hlt rfl hf g0 iP iQ tP tQ _ _ _ _ rfl rfl rfl rfl
  · have hr : rg n d = gd n d := if_neg hlt
    rw [hr, fitB_iff.2 iP, fitB_iff.2 iQ, fitN_of iP, fitN_of iQ]
    exact bmake_pos n d _ _ _ w hn hd hbn hb0 hbd (by omega) rfl hf g0 iP iQ tP tQ

set_option maxHeartbeats 800000 in
theorem bgood_any (n d : Int) (w : World) (hn : InI n) (hd : InI d) :
    Calls Tryd.prog 15 #[.int .i64 n, .int .i64 d] w fun e w' => e = .returned (.bool (goodB n d)) ∧ Below w.heap.size w w' := by
  have HG := Lib.hid (fun w => bgcd_c n d w hn hd)
  rw [good_eq]
  generalize fitN (gd n d) = g at HG ⊢
  generalize fitB (gd n d) = x at HG ⊢
  by_cases h : 0 < d
  · cases x
    · go_enter Tryd.func15, Tryd.ntmps15
      go_wp2_with fail
      refine (HG.out _).mono ?_; rintro e w1 ⟨rfl, hb1⟩
      go_wp2
      go_ret
      exact ⟨by simp, hb1⟩
    · by_cases hg1 : g = 1
      · subst hg1
        go_enter Tryd.func15, Tryd.ntmps15
        go_wp2_with fail
        refine (HG.out _).mono ?_; rintro e w1 ⟨rfl, hb1⟩
        go_wp2
        go_ret
        exact ⟨by simp [h], hb1⟩
      · have hgf : (g == 1) = false := by simpa using hg1
        have HG1 := Lib.hid hg1
        clear hg1
        go_enter Tryd.func15, Tryd.ntmps15
        go_wp2_with fail
        refine (HG.out _).mono ?_; rintro e w1 ⟨rfl, hb1⟩
        go_wp2
        go_ret
        exact ⟨by have := HG1.out; simp [this], hb1⟩
  · have hd0 := Lib.hid h
    go_enter Tryd.func15, Tryd.ntmps15
    go_wp2_with fail
    refine (HG.out _).mono ?_; rintro e w1 ⟨rfl, hb1⟩
    go_wp2
    go_ret
    refine ⟨?_, hb1⟩
    rw [decide_eq_false (Int.not_lt.2 hd0.out)]; rfl
end Go.Proofs.YtkdklmkcanjjfaaDoor
