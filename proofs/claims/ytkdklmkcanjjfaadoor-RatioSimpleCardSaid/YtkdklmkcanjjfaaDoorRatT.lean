/- The walks of ratio, part T: the simplest one between two. -/
import Derived.Test.YtkdklmkcanjjfaaDoorRatS
import Derived.Test.YtkdklmkcanjjfaaDoorMem2
import Derived.Maps.AppendAt
namespace Go.Proofs.YtkdklmkcanjjfaaDoor
open Go.RowKit
set_option linter.unusedVariables false
set_option linter.unusedSimpArgs false
set_option maxRecDepth 100000

theorem fl_unique {f f' n d : Int} (hd : 0 < d) (h : IsFl f n d) (h' : IsFl f' n d) : f = f' := by
  obtain ⟨a1, a2⟩ := h
  obtain ⟨b1, b2⟩ := h'
  have h1 : f * d < (f' + 1) * d := by grind
  have h2 : f' * d < (f + 1) * d := by grind
  have h3 := lt_of_mul hd h1
  have h4 := lt_of_mul hd h2
  omega
theorem cl_unique {f f' n d : Int} (hd : 0 < d) (h : IsCl f n d) (h' : IsCl f' n d) : f = f' := by
  obtain ⟨a1, a2⟩ := h
  obtain ⟨b1, b2⟩ := h'
  have h1 : f * d < (f' + 1) * d := by grind
  have h2 : f' * d < (f + 1) * d := by grind
  have h3 := lt_of_mul hd h1
  have h4 := lt_of_mul hd h2
  omega
theorem whole_fl {n d : Int} (hn : InI n) (hd : InI d) (h : goodB n d = true) : IsFl (wholeR n d false) n d ∧ IsCl (wholeR n d true) n d ∧ InI (wholeR n d false) ∧ InI (wholeR n d true) := by
  have d0 := good_pos h
  have dne : d ≠ 0 := by omega
  have hx : ¬ (n = -9223372036854775808 ∧ d = -1) := by omega
  have i1 := quo_in n d hn hd dne hx false
  have i2 := quo_in n d hn hd dne hx true
  obtain ⟨q1, _, q3, q4⟩ := quo_laws n d dne
  have q1 := q1 d0
  have e1 : wholeR n d false = quoR n d false := by unfold wholeR; rw [if_pos h]; exact fitN_of i1
  have e2 : wholeR n d true = quoR n d true := by unfold wholeR; rw [if_pos h]; exact fitN_of i2
  rw [e1, e2]
  generalize quoR n d false = f at *
  generalize quoR n d true = c at *
  refine ⟨⟨by omega, by omega⟩, ?_, i1, i2⟩
  by_cases hz : n - f * d = 0
  · rw [q3 hz]; exact ⟨by omega, by omega⟩
  · rw [q4 hz]; unfold IsCl; rw [Int.add_mul, Int.one_mul]; exact ⟨by omega, by omega⟩
theorem good_step {n d q : Int} (h : goodB n d = true) (hp : 0 < n - q * d) : goodB d (n - q * d) = true := by
  have hg := good_gd h
  unfold goodB
  rw [decide_eq_true_iff]
  refine ⟨hp, ?_⟩
  unfold gd at hg ⊢
  have h1 : Int.gcd d (n - q * d) = Int.gcd d n := by
    rw [Int.sub_eq_add_neg, ← Int.neg_mul]
    exact Int.gcd_add_mul_right_right _ _ _
  have h2 : Int.gcd d n = Nat.gcd d.natAbs n.natAbs := rfl
  have h3 : Nat.gcd d.natAbs (n - q * d).natAbs = Nat.gcd n.natAbs d.natAbs := by
    rw [Nat.gcd_comm n.natAbs]; exact h1
  rw [h3]; exact hg

theorem info_i64 : (Tryd.prog.info? 2).map (fun i => (i.zero, i.size, i.bytes)) = some (some (.int .i64 0), 1, 8) := by kernel_rfl
/-- How the rounds stand: the parts before, the parts to come. -/
structure BtwIn (L pre rest : List Int) (a b c d : Int) : Prop where
  app : L = pre ++ rest
  btw : Btw a b c d rest
  ga : goodB a b = true
  gc : goodB c d = true
  a0 : 0 < a
  c0 : 0 < c
  le : a * d ≤ c * b
  ia : InI a
  ib : InI b
  ic : InI c
  id : InI d
set_option maxHeartbeats 6400000 in
theorem between_any (L : List Int) (a b c d : Int) (w : World) (ia : InI a) (ib : InI b) (ic : InI c) (id : InI d) (hL : Btw a b c d L) (ga : goodB a b = true) (gc : goodB c d = true) (a0 : 0 < a) (c0 : 0 < c) (hle : a * d ≤ c * b) :
    Calls Tryd.prog 62 #[.agg #[.int .i64 a, .int .i64 b], .agg #[.int .i64 c, .int .i64 d]] w fun e w' => e = .returned (.agg #[.int .i64 (cf L).1, .int .i64 (cf L).2]) ∧ Below w.heap.size w w' := by
  have HF : Hid (Fits 9223372036854775807 L ∧ ∀ x ∈ L, 0 ≤ x ∧ x ≤ 9223372036854775807) := Lib.hid (btw_fits (by omega) hL a0 (good_pos ga) c0 (good_pos gc) hle ia.2 ib.2 ic.2 id.2)
  have H0 : Hid (BtwIn L [] L a b c d) := Lib.hid ⟨rfl, hL, ga, gc, a0, c0, hle, ia, ib, ic, id⟩
  have HLEN : Hid (L.length ≤ 128) := Lib.hid (btw_len hL a0 (good_pos ga) c0 (good_pos gc) hle HF.out.1)
  clear ia ib ic id hL ga gc a0 c0 hle
  go_enter Tryd.func62, Tryd.ntmps62
  have bl0 := Below.refl w.heap.size w
  go_wp2_with fail
  have Na_0 : Blk (((w.alloc (.cells #[.int .i64 a, .int .i64 b] 23)).alloc (.cells #[.int .i64 c, .int .i64 d] 23)).alloc (.cells #[.int .i64 0, .int .i64 0] 23)) (w.heap.size) 23 #[.int .i64 a, .int .i64 b] := (((Blk.new _ _ _).alloc _).alloc _)
  have Nc_0 : Blk (((w.alloc (.cells #[.int .i64 a, .int .i64 b] 23)).alloc (.cells #[.int .i64 c, .int .i64 d] 23)).alloc (.cells #[.int .i64 0, .int .i64 0] 23)) (w.heap.size + 1) 23 #[.int .i64 c, .int .i64 d] := ((Blk.new' (by simp) _ _).alloc _)
  have Nr_0 : Blk (((w.alloc (.cells #[.int .i64 a, .int .i64 b] 23)).alloc (.cells #[.int .i64 c, .int .i64 d] 23)).alloc (.cells #[.int .i64 0, .int .i64 0] 23)) (w.heap.size + 1 + 1) 23 #[.int .i64 0, .int .i64 0] := (Blk.new' (by simp) _ _)
  have bl0 := bl_alloc (bl_alloc (bl_alloc (bl0) (.cells #[.int .i64 a, .int .i64 b] 23)) (.cells #[.int .i64 c, .int .i64 d] 23)) (.cells #[.int .i64 0, .int .i64 0] 23)
  generalize ((w.alloc (.cells #[.int .i64 a, .int .i64 b] 23)).alloc (.cells #[.int .i64 c, .int .i64 d] 23)).alloc (.cells #[.int .i64 0, .int .i64 0] 23) = vw0 at Na_0 Nc_0 Nr_0 bl0 ⊢
  have a_n0_z : w.heap.size < vw0.heap.size := Na_0.lt
  have a_n0_c0 : vw0.cell? ⟨w.heap.size, 0, none⟩ = some (.int .i64 a) := (Na_0.cell 0).trans rfl
  have a_n0_f0 := Na_0.frozen 0
  have a_n0_c1 : vw0.cell? ⟨w.heap.size, 1, none⟩ = some (.int .i64 b) := (Na_0.cell 1).trans rfl
  have a_n0_f1 := Na_0.frozen 1
  have c_n0_z : w.heap.size + 1 < vw0.heap.size := Nc_0.lt
  have c_n0_c0 : vw0.cell? ⟨w.heap.size + 1, 0, none⟩ = some (.int .i64 c) := (Nc_0.cell 0).trans rfl
  have c_n0_f0 := Nc_0.frozen 0
  have c_n0_c1 : vw0.cell? ⟨w.heap.size + 1, 1, none⟩ = some (.int .i64 d) := (Nc_0.cell 1).trans rfl
  have c_n0_f1 := Nc_0.frozen 1
  have r_n0_z : w.heap.size + 1 + 1 < vw0.heap.size := Nr_0.lt
  have r_n0_c0 : vw0.cell? ⟨w.heap.size + 1 + 1, 0, none⟩ = some (.int .i64 0) := (Nr_0.cell 0).trans rfl
  have r_n0_f0 := Nr_0.frozen 0
  have r_n0_c1 : vw0.cell? ⟨w.heap.size + 1 + 1, 1, none⟩ = some (.int .i64 0) := (Nr_0.cell 1).trans rfl
  have r_n0_f1 := Nr_0.frozen 1
  have HZ : Hid (w.heap.size + 1 + 1 + 1 ≤ vw0.heap.size) := Lib.hid (by have := Nr_0.lt; omega)
  go_loopg [5] L.length (fun k vs wr => ∃ (pre rest : List Int) (a b c d : Int), k = rest.length ∧ BtwIn L pre rest a b c d ∧ Blk wr w.heap.size 23 #[.int .i64 a, .int .i64 b] ∧ Blk wr (w.heap.size + 1) 23 #[.int .i64 c, .int .i64 d] ∧ Blk wr (w.heap.size + 1 + 1) 23 #[.int .i64 0, .int .i64 0] ∧ wr.ownsRow (w.heap.size + 1 + 1 + 1) 2 1 vs pre.length (pre.map (Value.int .i64)) ∧ Below w.heap.size w wr ∧ w.heap.size + 1 + 1 + 1 ≤ wr.heap.size)
  case atStart => exact ⟨[], L, a, b, c, d, rfl, H0.out, Na_0, Nc_0, Nr_0, own_nil _ _ _ _, bl0, HZ.out⟩
  case round =>
    clear bl0 a_n0_z a_n0_c0 a_n0_f0 a_n0_c1 a_n0_f1 c_n0_z c_n0_c0 c_n0_f0 c_n0_c1 c_n0_f1 r_n0_z r_n0_c0 r_n0_f0 r_n0_c1 r_n0_f1
    obtain ⟨pre, rest, a, b, c, d, hk, hbi, hA, hC, hR, own, be, hz⟩ := hrel
    have HK := Lib.hid hk
    have HB := Lib.hid hbi
    have H1 := Lib.hid (fun w => rfloor_any a b w hbi.ia hbi.ib)
    have H2 := Lib.hid (fun w => rceil_any a b w hbi.ia hbi.ib)
    have H3 := Lib.hid (fun w => rfloor_any c d w hbi.ic hbi.id)
    obtain ⟨f1, f2, f3, f4⟩ := whole_fl hbi.ia hbi.ib hbi.ga
    obtain ⟨g1, _, g3, _⟩ := whole_fl hbi.ic hbi.id hbi.gc
    have b0 := good_pos hbi.ga
    have d0 := good_pos hbi.gc
    generalize wholeR a b false = lo at *
    generalize wholeR a b true = cl at *
    generalize wholeR c d false = fb at *
    have hlen : pre.length + rest.length ≤ 128 := by have := HLEN.out; rw [hbi.app, List.length_append] at this; exact this
    clear hk
    have hbt := hbi.btw
    clear hbi
    cases hbt with
    | done c2 f22 hc hf hle =>
      obtain rfl := cl_unique b0 f2 hc
      obtain rfl := fl_unique d0 g1 hf
      clear f1 f2 g1 hc hf f3 f4 g3
      have bl0 : Below wr.heap.size wr wr := Below.refl _ _
      have own0 := own
      have a_o_z : w.heap.size < wr.heap.size := hA.lt
      have a_o_c0 : wr.cell? ⟨w.heap.size, 0, none⟩ = some (.int .i64 a) := (hA.cell 0).trans rfl
      have a_o_f0 := hA.frozen 0
      have a_o_c1 : wr.cell? ⟨w.heap.size, 1, none⟩ = some (.int .i64 b) := (hA.cell 1).trans rfl
      have a_o_f1 := hA.frozen 1
      have c_o_z : w.heap.size + 1 < wr.heap.size := hC.lt
      have c_o_c0 : wr.cell? ⟨w.heap.size + 1, 0, none⟩ = some (.int .i64 c) := (hC.cell 0).trans rfl
      have c_o_f0 := hC.frozen 0
      have c_o_c1 : wr.cell? ⟨w.heap.size + 1, 1, none⟩ = some (.int .i64 d) := (hC.cell 1).trans rfl
      have c_o_f1 := hC.frozen 1
      have r_o_z : w.heap.size + 1 + 1 < wr.heap.size := hR.lt
      have r_o_c0 : wr.cell? ⟨w.heap.size + 1 + 1, 0, none⟩ = some (.int .i64 0) := (hR.cell 0).trans rfl
      have r_o_f0 := hR.frozen 0
      have r_o_c1 : wr.cell? ⟨w.heap.size + 1 + 1, 1, none⟩ = some (.int .i64 0) := (hR.cell 1).trans rfl
      have r_o_f1 := hR.frozen 1
      go_wp2_with fail
      refine (H1.out _).mono ?_; rintro e v1 ⟨rfl, hb1⟩
      have st1 := bl_step (Below.refl _ _) hb1
      have bl1 := bl_step bl0 st1
      clear a_o_z a_o_c0 a_o_f0 a_o_c1 a_o_f1
      have Ba_1 := hA.below st1
      clear c_o_z c_o_c0 c_o_f0 c_o_c1 c_o_f1
      have Bc_1 := hC.below st1
      clear r_o_z r_o_c0 r_o_f0 r_o_c1 r_o_f1
      have Br_1 := hR.below st1
      have a_1_z : w.heap.size < v1.heap.size := Ba_1.lt
      have a_1_c0 : v1.cell? ⟨w.heap.size, 0, none⟩ = some (.int .i64 a) := (Ba_1.cell 0).trans rfl
      have a_1_f0 := Ba_1.frozen 0
      have a_1_c1 : v1.cell? ⟨w.heap.size, 1, none⟩ = some (.int .i64 b) := (Ba_1.cell 1).trans rfl
      have a_1_f1 := Ba_1.frozen 1
      have c_1_z : w.heap.size + 1 < v1.heap.size := Bc_1.lt
      have c_1_c0 : v1.cell? ⟨w.heap.size + 1, 0, none⟩ = some (.int .i64 c) := (Bc_1.cell 0).trans rfl
      have c_1_f0 := Bc_1.frozen 0
      have c_1_c1 : v1.cell? ⟨w.heap.size + 1, 1, none⟩ = some (.int .i64 d) := (Bc_1.cell 1).trans rfl
      have c_1_f1 := Bc_1.frozen 1
      have r_1_z : w.heap.size + 1 + 1 < v1.heap.size := Br_1.lt
      have r_1_c0 : v1.cell? ⟨w.heap.size + 1 + 1, 0, none⟩ = some (.int .i64 0) := (Br_1.cell 0).trans rfl
      have r_1_f0 := Br_1.frozen 0
      have r_1_c1 : v1.cell? ⟨w.heap.size + 1 + 1, 1, none⟩ = some (.int .i64 0) := (Br_1.cell 1).trans rfl
      have r_1_f1 := Br_1.frozen 1
      have own1 := own_below own0 st1
      go_wp2_with fail
      refine (H2.out _).mono ?_; rintro e v2 ⟨rfl, hb2⟩
      have st2 := bl_step (Below.refl _ _) hb2
      have bl2 := bl_step bl1 st2
      clear a_1_z a_1_c0 a_1_f0 a_1_c1 a_1_f1
      have Ba_2 := Ba_1.below st2
      clear c_1_z c_1_c0 c_1_f0 c_1_c1 c_1_f1
      have Bc_2 := Bc_1.below st2
      clear r_1_z r_1_c0 r_1_f0 r_1_c1 r_1_f1
      have Br_2 := Br_1.below st2
      have a_2_z : w.heap.size < v2.heap.size := Ba_2.lt
      have a_2_c0 : v2.cell? ⟨w.heap.size, 0, none⟩ = some (.int .i64 a) := (Ba_2.cell 0).trans rfl
      have a_2_f0 := Ba_2.frozen 0
      have a_2_c1 : v2.cell? ⟨w.heap.size, 1, none⟩ = some (.int .i64 b) := (Ba_2.cell 1).trans rfl
      have a_2_f1 := Ba_2.frozen 1
      have c_2_z : w.heap.size + 1 < v2.heap.size := Bc_2.lt
      have c_2_c0 : v2.cell? ⟨w.heap.size + 1, 0, none⟩ = some (.int .i64 c) := (Bc_2.cell 0).trans rfl
      have c_2_f0 := Bc_2.frozen 0
      have c_2_c1 : v2.cell? ⟨w.heap.size + 1, 1, none⟩ = some (.int .i64 d) := (Bc_2.cell 1).trans rfl
      have c_2_f1 := Bc_2.frozen 1
      have r_2_z : w.heap.size + 1 + 1 < v2.heap.size := Br_2.lt
      have r_2_c0 : v2.cell? ⟨w.heap.size + 1 + 1, 0, none⟩ = some (.int .i64 0) := (Br_2.cell 0).trans rfl
      have r_2_f0 := Br_2.frozen 0
      have r_2_c1 : v2.cell? ⟨w.heap.size + 1 + 1, 1, none⟩ = some (.int .i64 0) := (Br_2.cell 1).trans rfl
      have r_2_f1 := Br_2.frozen 1
      have own2 := own_below own1 st2
      go_wp2_with fail
      refine (H3.out _).mono ?_; rintro e v3 ⟨rfl, hb3⟩
      have st3 := bl_step (Below.refl _ _) hb3
      have bl3 := bl_step bl2 st3
      clear a_2_z a_2_c0 a_2_f0 a_2_c1 a_2_f1
      have Ba_3 := Ba_2.below st3
      clear c_2_z c_2_c0 c_2_f0 c_2_c1 c_2_f1
      have Bc_3 := Bc_2.below st3
      clear r_2_z r_2_c0 r_2_f0 r_2_c1 r_2_f1
      have Br_3 := Br_2.below st3
      have a_3_z : w.heap.size < v3.heap.size := Ba_3.lt
      have a_3_c0 : v3.cell? ⟨w.heap.size, 0, none⟩ = some (.int .i64 a) := (Ba_3.cell 0).trans rfl
      have a_3_f0 := Ba_3.frozen 0
      have a_3_c1 : v3.cell? ⟨w.heap.size, 1, none⟩ = some (.int .i64 b) := (Ba_3.cell 1).trans rfl
      have a_3_f1 := Ba_3.frozen 1
      have c_3_z : w.heap.size + 1 < v3.heap.size := Bc_3.lt
      have c_3_c0 : v3.cell? ⟨w.heap.size + 1, 0, none⟩ = some (.int .i64 c) := (Bc_3.cell 0).trans rfl
      have c_3_f0 := Bc_3.frozen 0
      have c_3_c1 : v3.cell? ⟨w.heap.size + 1, 1, none⟩ = some (.int .i64 d) := (Bc_3.cell 1).trans rfl
      have c_3_f1 := Bc_3.frozen 1
      have r_3_z : w.heap.size + 1 + 1 < v3.heap.size := Br_3.lt
      have r_3_c0 : v3.cell? ⟨w.heap.size + 1 + 1, 0, none⟩ = some (.int .i64 0) := (Br_3.cell 0).trans rfl
      have r_3_f0 := Br_3.frozen 0
      have r_3_c1 : v3.cell? ⟨w.heap.size + 1 + 1, 1, none⟩ = some (.int .i64 0) := (Br_3.cell 1).trans rfl
      have r_3_f1 := Br_3.frozen 1
      have own3 := own_below own2 st3
      have hz3 : w.heap.size + 1 + 1 + 1 ≤ v3.heap.size := by have := bl3.size; omega
      have hl1 : (pre.length + 1) * 8 ≤ 140737488355328 := by simp at hlen; omega
      go_wp2_with (at_builtin; refine app1b (w.heap.size + 1 + 1 + 1) hz3 rfl (.tmp 16) (.tmp 18) 97 2 (.int .i64 0) 8 rfl Tryd.underlying97 info_i64 rfl (by omega) _ pre.length _ (.int .i64 cl) rfl rfl rfl own3 hl1 ?_; intro v4 w4 hown4 hg4)
      have hR4 := Br_3.grown hg4 (by intro h; have := own_base own3 _ h.symm; omega)
      have be4 := bl_grown (bl_step be bl3) hg4 (fun k hk => by have := own_base own3 k hk; omega)
      have eL : L.map (Value.int .i64) = pre.map (Value.int .i64) ++ [.int .i64 cl] := by rw [HB.out.app]; simp
      have nL : L.length = pre.length + 1 := by rw [HB.out.app]; simp
      rw [← eL, ← nL] at hown4
      obtain ⟨g, cc, rfl, n1, n2, n3, n4⟩ := own_nums hown4 (by omega)
      have HS := Lib.hid (steps_any L g cc w4 HF.out.1 HF.out.2 n1 n2 n4 n3)
      clear eL nL n4 hown4
      refine HS.out.mono ?_; rintro e w5 ⟨rfl, hb5⟩
      have hR5 := hR4.below hb5
      have r5_z : w.heap.size + 1 + 1 < w5.heap.size := hR5.lt
      have r5_c0 : w5.cell? ⟨w.heap.size + 1 + 1, 0, none⟩ = some (.int .i64 0) := (hR5.cell 0).trans rfl
      have r5_f0 := hR5.frozen 0
      have r5_c1 : w5.cell? ⟨w.heap.size + 1 + 1, 1, none⟩ = some (.int .i64 0) := (hR5.cell 1).trans rfl
      have r5_f1 := hR5.frozen 1
      have be5 := bl_step be4 hb5
      go_wp2
      refine bodyPost_ret (v := .agg #[.int .i64 (cf L).1, .int .i64 (cf L).2]) (by simp [results, Tryd.results62, go_sem, r5_c0, r5_f0, r5_c1, r5_f1]) rfl ⟨rfl, ?_⟩
      (repeat (first | exact Below.refl _ _ | with_reducible assumption | refine bl_alloc ?_ _ | refine bl_set ?_ (by simp <;> omega) _ | refine bl_drew ?_ | refine bl_drewN ?_ _ | refine bl_step ?_ (by assumption)))
    | step q c2 f22 r hq hc hf hlt hb2 =>
      obtain rfl := cl_unique b0 f2 hc
      obtain rfl := fl_unique d0 g1 hf
      obtain rfl := fl_unique b0 f1 hq
      clear hc hf hq
      obtain ⟨q0, p1, p2, p3⟩ := step_pos f1 f2 g1 hlt HB.out.a0 b0 HB.out.c0 d0 HB.out.le
      have ia := HB.out.ia
      have ic := HB.out.ic
      have ib := HB.out.ib
      have id := HB.out.id
      have t1 : 0 ≤ lo * b := Int.mul_nonneg q0 (by omega)
      have t2 : 0 ≤ lo * d := Int.mul_nonneg q0 (by omega)
      have HN : Hid (BtwIn L (pre ++ [lo]) r d (c - lo * d) b (a - lo * b)) := Lib.hid ⟨by rw [HB.out.app]; simp, hb2, good_step HB.out.gc p2, good_step HB.out.ga p1, d0, b0, p3, id, ⟨by omega, by have := ic.2; omega⟩, ib, ⟨by omega, by have := ia.2; omega⟩⟩
      clear hb2 p3
      obtain ⟨P, hP⟩ : ∃ P, lo * d = P := ⟨_, rfl⟩
      obtain ⟨R, hR'⟩ : ∃ R, lo * b = R := ⟨_, rfl⟩
      rw [hP] at t2 p2 HN
      rw [hR'] at t1 p1 HN
      obtain ⟨ia1, ia2⟩ := ia
      obtain ⟨ic1, ic2⟩ := ic
      have w1 : IntKind.i64.wrap P = P := wrap_id ⟨by omega, by omega⟩
      have w2 : IntKind.i64.wrap R = R := wrap_id ⟨by omega, by omega⟩
      have w3 : IntKind.i64.wrap (c - P) = c - P := wrap_id ⟨by omega, by omega⟩
      have w4' : IntKind.i64.wrap (a - R) = a - R := wrap_id ⟨by omega, by omega⟩
      have HPR : Hid (lo * d = P ∧ lo * b = R) := Lib.hid ⟨hP, hR'⟩
      clear f1 f2 g1 f3 f4 g3
      have bl0 : Below wr.heap.size wr wr := Below.refl _ _
      have own0 := own
      have a_o_z : w.heap.size < wr.heap.size := hA.lt
      have a_o_c0 : wr.cell? ⟨w.heap.size, 0, none⟩ = some (.int .i64 a) := (hA.cell 0).trans rfl
      have a_o_f0 := hA.frozen 0
      have a_o_c1 : wr.cell? ⟨w.heap.size, 1, none⟩ = some (.int .i64 b) := (hA.cell 1).trans rfl
      have a_o_f1 := hA.frozen 1
      have c_o_z : w.heap.size + 1 < wr.heap.size := hC.lt
      have c_o_c0 : wr.cell? ⟨w.heap.size + 1, 0, none⟩ = some (.int .i64 c) := (hC.cell 0).trans rfl
      have c_o_f0 := hC.frozen 0
      have c_o_c1 : wr.cell? ⟨w.heap.size + 1, 1, none⟩ = some (.int .i64 d) := (hC.cell 1).trans rfl
      have c_o_f1 := hC.frozen 1
      have r_o_z : w.heap.size + 1 + 1 < wr.heap.size := hR.lt
      have r_o_c0 : wr.cell? ⟨w.heap.size + 1 + 1, 0, none⟩ = some (.int .i64 0) := (hR.cell 0).trans rfl
      have r_o_f0 := hR.frozen 0
      have r_o_c1 : wr.cell? ⟨w.heap.size + 1 + 1, 1, none⟩ = some (.int .i64 0) := (hR.cell 1).trans rfl
      have r_o_f1 := hR.frozen 1
      go_wp2_with fail
      refine (H1.out _).mono ?_; rintro e v1 ⟨rfl, hb1⟩
      have st1 := bl_step (Below.refl _ _) hb1
      have bl1 := bl_step bl0 st1
      clear a_o_z a_o_c0 a_o_f0 a_o_c1 a_o_f1
      have Ba_1 := hA.below st1
      clear c_o_z c_o_c0 c_o_f0 c_o_c1 c_o_f1
      have Bc_1 := hC.below st1
      clear r_o_z r_o_c0 r_o_f0 r_o_c1 r_o_f1
      have Br_1 := hR.below st1
      have a_1_z : w.heap.size < v1.heap.size := Ba_1.lt
      have a_1_c0 : v1.cell? ⟨w.heap.size, 0, none⟩ = some (.int .i64 a) := (Ba_1.cell 0).trans rfl
      have a_1_f0 := Ba_1.frozen 0
      have a_1_c1 : v1.cell? ⟨w.heap.size, 1, none⟩ = some (.int .i64 b) := (Ba_1.cell 1).trans rfl
      have a_1_f1 := Ba_1.frozen 1
      have c_1_z : w.heap.size + 1 < v1.heap.size := Bc_1.lt
      have c_1_c0 : v1.cell? ⟨w.heap.size + 1, 0, none⟩ = some (.int .i64 c) := (Bc_1.cell 0).trans rfl
      have c_1_f0 := Bc_1.frozen 0
      have c_1_c1 : v1.cell? ⟨w.heap.size + 1, 1, none⟩ = some (.int .i64 d) := (Bc_1.cell 1).trans rfl
      have c_1_f1 := Bc_1.frozen 1
      have r_1_z : w.heap.size + 1 + 1 < v1.heap.size := Br_1.lt
      have r_1_c0 : v1.cell? ⟨w.heap.size + 1 + 1, 0, none⟩ = some (.int .i64 0) := (Br_1.cell 0).trans rfl
      have r_1_f0 := Br_1.frozen 0
      have r_1_c1 : v1.cell? ⟨w.heap.size + 1 + 1, 1, none⟩ = some (.int .i64 0) := (Br_1.cell 1).trans rfl
      have r_1_f1 := Br_1.frozen 1
      have own1 := own_below own0 st1
      go_wp2_with fail
      refine (H2.out _).mono ?_; rintro e v2 ⟨rfl, hb2⟩
      have st2 := bl_step (Below.refl _ _) hb2
      have bl2 := bl_step bl1 st2
      clear a_1_z a_1_c0 a_1_f0 a_1_c1 a_1_f1
      have Ba_2 := Ba_1.below st2
      clear c_1_z c_1_c0 c_1_f0 c_1_c1 c_1_f1
      have Bc_2 := Bc_1.below st2
      clear r_1_z r_1_c0 r_1_f0 r_1_c1 r_1_f1
      have Br_2 := Br_1.below st2
      have a_2_z : w.heap.size < v2.heap.size := Ba_2.lt
      have a_2_c0 : v2.cell? ⟨w.heap.size, 0, none⟩ = some (.int .i64 a) := (Ba_2.cell 0).trans rfl
      have a_2_f0 := Ba_2.frozen 0
      have a_2_c1 : v2.cell? ⟨w.heap.size, 1, none⟩ = some (.int .i64 b) := (Ba_2.cell 1).trans rfl
      have a_2_f1 := Ba_2.frozen 1
      have c_2_z : w.heap.size + 1 < v2.heap.size := Bc_2.lt
      have c_2_c0 : v2.cell? ⟨w.heap.size + 1, 0, none⟩ = some (.int .i64 c) := (Bc_2.cell 0).trans rfl
      have c_2_f0 := Bc_2.frozen 0
      have c_2_c1 : v2.cell? ⟨w.heap.size + 1, 1, none⟩ = some (.int .i64 d) := (Bc_2.cell 1).trans rfl
      have c_2_f1 := Bc_2.frozen 1
      have r_2_z : w.heap.size + 1 + 1 < v2.heap.size := Br_2.lt
      have r_2_c0 : v2.cell? ⟨w.heap.size + 1 + 1, 0, none⟩ = some (.int .i64 0) := (Br_2.cell 0).trans rfl
      have r_2_f0 := Br_2.frozen 0
      have r_2_c1 : v2.cell? ⟨w.heap.size + 1 + 1, 1, none⟩ = some (.int .i64 0) := (Br_2.cell 1).trans rfl
      have r_2_f1 := Br_2.frozen 1
      have own2 := own_below own1 st2
      go_wp2_with fail
      refine (H3.out _).mono ?_; rintro e v3 ⟨rfl, hb3⟩
      have st3 := bl_step (Below.refl _ _) hb3
      have bl3 := bl_step bl2 st3
      clear a_2_z a_2_c0 a_2_f0 a_2_c1 a_2_f1
      have Ba_3 := Ba_2.below st3
      clear c_2_z c_2_c0 c_2_f0 c_2_c1 c_2_f1
      have Bc_3 := Bc_2.below st3
      clear r_2_z r_2_c0 r_2_f0 r_2_c1 r_2_f1
      have Br_3 := Br_2.below st3
      have a_3_z : w.heap.size < v3.heap.size := Ba_3.lt
      have a_3_c0 : v3.cell? ⟨w.heap.size, 0, none⟩ = some (.int .i64 a) := (Ba_3.cell 0).trans rfl
      have a_3_f0 := Ba_3.frozen 0
      have a_3_c1 : v3.cell? ⟨w.heap.size, 1, none⟩ = some (.int .i64 b) := (Ba_3.cell 1).trans rfl
      have a_3_f1 := Ba_3.frozen 1
      have c_3_z : w.heap.size + 1 < v3.heap.size := Bc_3.lt
      have c_3_c0 : v3.cell? ⟨w.heap.size + 1, 0, none⟩ = some (.int .i64 c) := (Bc_3.cell 0).trans rfl
      have c_3_f0 := Bc_3.frozen 0
      have c_3_c1 : v3.cell? ⟨w.heap.size + 1, 1, none⟩ = some (.int .i64 d) := (Bc_3.cell 1).trans rfl
      have c_3_f1 := Bc_3.frozen 1
      have r_3_z : w.heap.size + 1 + 1 < v3.heap.size := Br_3.lt
      have r_3_c0 : v3.cell? ⟨w.heap.size + 1 + 1, 0, none⟩ = some (.int .i64 0) := (Br_3.cell 0).trans rfl
      have r_3_f0 := Br_3.frozen 0
      have r_3_c1 : v3.cell? ⟨w.heap.size + 1 + 1, 1, none⟩ = some (.int .i64 0) := (Br_3.cell 1).trans rfl
      have r_3_f1 := Br_3.frozen 1
      have own3 := own_below own2 st3
      have hz3 : w.heap.size + 1 + 1 + 1 ≤ v3.heap.size := by have := bl3.size; omega
      have hl1 : (pre.length + 1) * 8 ≤ 140737488355328 := by simp at hlen; omega
      go_wp2_with (at_builtin; refine app1b (w.heap.size + 1 + 1 + 1) hz3 rfl (.tmp 21) (.tmp 23) 97 2 (.int .i64 0) 8 rfl Tryd.underlying97 info_i64 rfl (by omega) _ pre.length _ (.int .i64 lo) rfl rfl rfl own3 hl1 ?_; intro v4 w4 hown4 hg4; have hA4 := Ba_3.grown hg4 (by intro h; have := own_base own3 _ h.symm; omega); have hC4 := Bc_3.grown hg4 (by intro h; have := own_base own3 _ h.symm; omega); have hR4 := Br_3.grown hg4 (by intro h; have := own_base own3 _ h.symm; omega); have a4_z : w.heap.size < w4.heap.size := hA4.lt; have a4_c0 : w4.cell? ⟨w.heap.size, 0, none⟩ = some (.int .i64 a) := (hA4.cell 0).trans rfl; have a4_f0 := hA4.frozen 0; have a4_c1 : w4.cell? ⟨w.heap.size, 1, none⟩ = some (.int .i64 b) := (hA4.cell 1).trans rfl; have a4_f1 := hA4.frozen 1; have c4_z : w.heap.size + 1 < w4.heap.size := hC4.lt; have c4_c0 : w4.cell? ⟨w.heap.size + 1, 0, none⟩ = some (.int .i64 c) := (hC4.cell 0).trans rfl; have c4_f0 := hC4.frozen 0; have c4_c1 : w4.cell? ⟨w.heap.size + 1, 1, none⟩ = some (.int .i64 d) := (hC4.cell 1).trans rfl; have c4_f1 := hC4.frozen 1; have r4_z : w.heap.size + 1 + 1 < w4.heap.size := hR4.lt; have r4_c0 : w4.cell? ⟨w.heap.size + 1 + 1, 0, none⟩ = some (.int .i64 0) := (hR4.cell 0).trans rfl; have r4_f0 := hR4.frozen 0; have r4_c1 : w4.cell? ⟨w.heap.size + 1 + 1, 1, none⟩ = some (.int .i64 0) := (hR4.cell 1).trans rfl; have r4_f1 := hR4.frozen 1)
      have be4 := bl_grown (bl_step be bl3) hg4 (fun k hk => by have := own_base own3 k hk; omega)
      have hz4 : w.heap.size + 1 + 1 + 1 ≤ w4.heap.size := by have := hg4.size; omega
      go_roundg r.length
      case measure => have := HK.out; simp at this; omega
      case rel =>
        refine ⟨pre ++ [lo], r, d, c - P, b, a - R, rfl, HN.out,
          (((hA4.put 0 (.int .i64 d) rfl).put 1 (.int .i64 (c - P)) rfl).far (p := ⟨w.heap.size + 1, 0, none⟩) (by simp) (.int .i64 b)).far (p := ⟨w.heap.size + 1, 1, none⟩) (by simp) (.int .i64 (a - R)),
          (((hC4.far (p := ⟨w.heap.size, 0, none⟩) (by simp) (.int .i64 d)).far (p := ⟨w.heap.size, 1, none⟩) (by simp) (.int .i64 (c - P))).put 0 (.int .i64 b) rfl).put 1 (.int .i64 (a - R)) rfl,
          (((hR4.far (p := ⟨w.heap.size, 0, none⟩) (by simp; omega) (.int .i64 d)).far (p := ⟨w.heap.size, 1, none⟩) (by simp; omega) (.int .i64 (c - P))).far (p := ⟨w.heap.size + 1, 0, none⟩) (by simp) (.int .i64 b)).far (p := ⟨w.heap.size + 1, 1, none⟩) (by simp) (.int .i64 (a - R)),
          ?_, ?_, ?_⟩
        · have := own_set (own_set (own_set (own_set hown4 (p := ⟨w.heap.size, 0, none⟩) (by simp; omega) (.int .i64 d)) (p := ⟨w.heap.size, 1, none⟩) (by simp; omega) (.int .i64 (c - P))) (p := ⟨w.heap.size + 1, 0, none⟩) (by simp) (.int .i64 b)) (p := ⟨w.heap.size + 1, 1, none⟩) (by simp) (.int .i64 (a - R))
          simpa using this
        · exact bl_set (bl_set (bl_set (bl_set be4 (p := ⟨w.heap.size, 0, none⟩) (by simp) _) (p := ⟨w.heap.size, 1, none⟩) (by simp) _) (p := ⟨w.heap.size + 1, 0, none⟩) (by simp) _) (p := ⟨w.heap.size + 1, 1, none⟩) (by simp) _
        · simpa using hz4
end Go.Proofs.YtkdklmkcanjjfaaDoor
