/- The walks of instances, part E: Check, N. -/
import Derived.Test.YtklomjpnmmaogaaDoorID
namespace Go.Proofs.YtklomjpnmmaogaaDoor
open Go.RowKit
set_option linter.unusedVariables false
set_option linter.unusedSimpArgs false
set_option maxRecDepth 100000

def bareFrom (k : Nat) : List (List Int) → Bool
  | [] => true
  | r :: rest => (r.getD k 0 == 0) && bareFrom (k + 1) rest
def bareB (I : IData) : Bool := !(I.kind == 2) || bareFrom 0 I.cost
set_option maxHeartbeats 3200000 in
theorem bare_any (I : IData) (A1 A2 A3 : Option Addr) (c1 c2 c3 : Nat) (w : World) {B : Nat} (hI : InstAt w B I A1 c1 A2 c2 A3 c3) (hsq : ∀ r ∈ I.cost, r.length = I.cost.length) : Calls Tryd.prog 48 #[.agg #[.int .i64 I.kind, .int .i64 I.cap, .slice A1 I.items.length c1, .slice A2 I.cost.length c2, .int .i64 I.size, .slice A3 I.sets.length c3]] w fun e w' => e = .returned (.bool (bareB I)) ∧ Below w.heap.size w w' := by
  have HI := Lib.hid hI
  have HSQ := Lib.hid hsq
  have N2 := hI.n2
  clear hI hsq
  go_enter Tryd.func48, Tryd.ntmps48
  have bl0 := Below.refl w.heap.size w
  go_wp2_with fail
  have Ni_0 : Blk (w.alloc (.cells #[.int .i64 I.kind, .int .i64 I.cap, .slice A1 I.items.length c1, .slice A2 I.cost.length c2, .int .i64 I.size, .slice A3 I.sets.length c3] 27)) (w.heap.size) 27 #[.int .i64 I.kind, .int .i64 I.cap, .slice A1 I.items.length c1, .slice A2 I.cost.length c2, .int .i64 I.size, .slice A3 I.sets.length c3] := (Blk.new _ _ _)
  have bl0 := bl_alloc (bl0) (.cells #[.int .i64 I.kind, .int .i64 I.cap, .slice A1 I.items.length c1, .slice A2 I.cost.length c2, .int .i64 I.size, .slice A3 I.sets.length c3] 27)
  generalize w.alloc (.cells #[.int .i64 I.kind, .int .i64 I.cap, .slice A1 I.items.length c1, .slice A2 I.cost.length c2, .int .i64 I.size, .slice A3 I.sets.length c3] 27) = vw0 at Ni_0 bl0 ⊢
  have i_n0_z : w.heap.size < vw0.heap.size := Ni_0.lt
  have i_n0_c0 : vw0.cell? ⟨w.heap.size, 0, none⟩ = some (.int .i64 I.kind) := (Ni_0.cell 0).trans rfl
  have i_n0_f0 := Ni_0.frozen 0
  have i_n0_c1 : vw0.cell? ⟨w.heap.size, 1, none⟩ = some (.int .i64 I.cap) := (Ni_0.cell 1).trans rfl
  have i_n0_f1 := Ni_0.frozen 1
  have i_n0_c2 : vw0.cell? ⟨w.heap.size, 2, none⟩ = some (.slice A1 I.items.length c1) := (Ni_0.cell 2).trans rfl
  have i_n0_f2 := Ni_0.frozen 2
  have i_n0_c3 : vw0.cell? ⟨w.heap.size, 3, none⟩ = some (.slice A2 I.cost.length c2) := (Ni_0.cell 3).trans rfl
  have i_n0_f3 := Ni_0.frozen 3
  have i_n0_c4 : vw0.cell? ⟨w.heap.size, 4, none⟩ = some (.int .i64 I.size) := (Ni_0.cell 4).trans rfl
  have i_n0_f4 := Ni_0.frozen 4
  have i_n0_c5 : vw0.cell? ⟨w.heap.size, 5, none⟩ = some (.slice A3 I.sets.length c3) := (Ni_0.cell 5).trans rfl
  have i_n0_f5 := Ni_0.frozen 5
  go_wp2_with fail
  go_loop [8] (fun vi => ∃ i : Nat, vi = .int .i64 i ∧ i ≤ I.cost.length ∧ Hid (bareB I = (!(I.kind == 2) || bareFrom i (I.cost.drop i)))) (fun vi => I.cost.length - (intOf vi).toNat)
  case atStart => exact ⟨0, rfl, Nat.zero_le _, Lib.hid rfl⟩
  case round =>
    obtain ⟨i, rfl, hi, HE⟩ := hrel
    by_cases hlt : i < I.cost.length
    · obtain ⟨r, hr⟩ : ∃ r, I.cost[i]? = some r := ⟨_, List.getElem?_eq_getElem hlt⟩
      obtain ⟨g, o, A', c', rfl, hb, hc, h4, h5, h6⟩ := (HI.out.below bl0).cost.get hr
      have hlen := HSQ.out r (List.mem_of_getElem? hr)
      obtain ⟨x, hx⟩ : ∃ x, r[i]? = some x := ⟨_, List.getElem?_eq_getElem (by omega)⟩
      obtain ⟨g', o', rfl, hb', hcx⟩ := h6.get hx
      have hd := drop_get hr
      have hir : i < r.length := by omega
      have hgd : r.getD i 0 = x := by rw [List.getD, hx]; rfl
      by_cases h2 : I.kind = 2
      · have g2 : (I.kind == 2) = true := by simpa using h2
        by_cases h0 : x = 0
        · have HN : Hid (bareB I = (!(I.kind == 2) || bareFrom (i + 1) (I.cost.drop (i + 1)))) := Lib.hid (by rw [HE.out, hd]; simp [bareFrom, hx, h0])
          have g0 : (x == 0) = true := by simpa using h0
          clear hd hr hlen hx h6 h2 h0 hgd
          go_wp2_with fail
          go_round
          case rel => exact ⟨i + 1, by go_num, by omega, HN⟩
          case measure => simp only [intOf]; omega
        · have HN : Hid (bareB I = false) := Lib.hid (by rw [HE.out, hd, g2]; simp [bareFrom, hx, h0])
          have g0 : (x == 0) = false := by simpa using h0
          clear hd hr hlen hx h6 h2 h0 hgd
          go_wp2
          go_ret
          exact ⟨by rw [HN.out]; rfl, bl0⟩
      · have g2 : (I.kind == 2) = false := by simpa using h2
        have HN : Hid (bareB I = (!(I.kind == 2) || bareFrom (i + 1) (I.cost.drop (i + 1)))) := Lib.hid (by rw [HE.out, g2]; rfl)
        clear hd hr hlen hx h6 h2 hgd
        go_wp2_with fail
        go_round
        case rel => exact ⟨i + 1, by go_num, by omega, HN⟩
        case measure => simp only [intOf]; omega
    · obtain rfl : i = I.cost.length := by omega
      have HN : Hid (bareB I = true) := Lib.hid (by rw [HE.out, List.drop_length]; simp [bareFrom])
      go_wp2
      go_ret
      exact ⟨by rw [HN.out]; rfl, bl0⟩
def lean1 (I : IData) : Bool := lean8 (I.kind == 0) (I.cap == 0) ((I.items.length : Int) == 0) (sqB I.kind) ((I.cost.length : Int) == 0) (I.kind == 3) (I.size == 0) ((I.sets.length : Int) == 0)
def few1 (I : IData) : Bool := fewB (sqB I.kind) I.items.length I.cost.length I.sets.length I.size
def chk6 (a b c d e f : Bool) : Int := if a = true then (if b = true then (if c = true then (if d = true then (if e = true then (if f = true then 0 else 4) else 22) else 4) else 22) else 4) else 25
def checkR (I : IData) : Int := chk6 (kindB I.kind) (lean1 I) (few1 I) (shapedB I) (smallB I) (bareB I)
theorem shaped_sq {I : IData} (h : shapedB I = true) : ∀ r ∈ I.cost, r.length = I.cost.length := by
  unfold shapedB at h
  simp only [Bool.and_eq_true, List.all_eq_true] at h
  intro r hr
  have := h.1 r hr
  simpa using this
set_option maxHeartbeats 6400000 in
theorem check_any (I : IData) (A1 A2 A3 : Option Addr) (c1 c2 c3 : Nat) (w : World) {B : Nat} (hI : InstAt w B I A1 c1 A2 c2 A3 c3) : Calls Tryd.prog 19 #[.agg #[.int .i64 I.kind, .int .i64 I.cap, .slice A1 I.items.length c1, .slice A2 I.cost.length c2, .int .i64 I.size, .slice A3 I.sets.length c3]] w fun e w' => e = .returned (.int .i64 (checkR I)) ∧ Below w.heap.size w w' := by
  have H1 := Lib.hid (fun w => is_any I.kind w)
  have H2 := Lib.hid (fun w => lean_core I.kind I.cap I.size A1 A2 A3 I.items.length I.cost.length I.sets.length c1 c2 c3 w _ (Lib.hid fun w => square_any I.kind w))
  have H3 := Lib.hid (fun w => few_core I.kind I.cap I.size A1 A2 A3 I.items.length I.cost.length I.sets.length c1 c2 c3 w _ (Lib.hid fun w => square_any I.kind w))
  have H4 := Lib.hid (fun w' (hb : Below w.heap.size w w') => shaped_any I A1 A2 A3 c1 c2 c3 w' (hI.below hb))
  have H5 := Lib.hid (fun w' (hb : Below w.heap.size w w') => small_any I A1 A2 A3 c1 c2 c3 w' (hI.below hb))
  have H6 : Hid (shapedB I = true → ∀ w' (hb : Below w.heap.size w w'), _) := Lib.hid (fun hs w' (hb : Below w.heap.size w w') => bare_any I A1 A2 A3 c1 c2 c3 w' (hI.below hb) (shaped_sq hs))
  have H2 := Lib.hid (fun w => (show Calls Tryd.prog 44 #[.agg #[.int .i64 I.kind, .int .i64 I.cap, .slice A1 I.items.length c1, .slice A2 I.cost.length c2, .int .i64 I.size, .slice A3 I.sets.length c3]] w fun e w' => e = .returned (.bool (lean1 I)) ∧ Below w.heap.size w w' from H2.out w))
  have H3 := Lib.hid (fun w => (show Calls Tryd.prog 45 #[.agg #[.int .i64 I.kind, .int .i64 I.cap, .slice A1 I.items.length c1, .slice A2 I.cost.length c2, .int .i64 I.size, .slice A3 I.sets.length c3]] w fun e w' => e = .returned (.bool (few1 I)) ∧ Below w.heap.size w w' from H3.out w))
  clear hI
  unfold checkR
  generalize kindB I.kind = a at H1 ⊢
  generalize lean1 I = b at H2 ⊢
  generalize few1 I = c at H3 ⊢
  generalize shapedB I = d at H4 H6 ⊢
  generalize smallB I = x at H5 ⊢
  generalize bareB I = f at H6 ⊢
  cases a
  · go_enter Tryd.func19, Tryd.ntmps19
    go_wp2_with fail
    (with_reducible refine (H1.out _).mono ?_); rintro e v1 ⟨rfl, hb1⟩
    have st1 := bl_step (bl_alloc (Below.refl _ _) _) hb1
    have bl1 := st1
    have Bi_1 : Blk v1 (w.heap.size) 27 #[.int .i64 I.kind, .int .i64 I.cap, .slice A1 I.items.length c1, .slice A2 I.cost.length c2, .int .i64 I.size, .slice A3 I.sets.length c3] := (Blk.new _ _ _).below hb1
    have i_1_z : w.heap.size < v1.heap.size := Bi_1.lt
    have i_1_c0 : v1.cell? ⟨w.heap.size, 0, none⟩ = some (.int .i64 I.kind) := (Bi_1.cell 0).trans rfl
    have i_1_f0 := Bi_1.frozen 0
    have i_1_c1 : v1.cell? ⟨w.heap.size, 1, none⟩ = some (.int .i64 I.cap) := (Bi_1.cell 1).trans rfl
    have i_1_f1 := Bi_1.frozen 1
    have i_1_c2 : v1.cell? ⟨w.heap.size, 2, none⟩ = some (.slice A1 I.items.length c1) := (Bi_1.cell 2).trans rfl
    have i_1_f2 := Bi_1.frozen 2
    have i_1_c3 : v1.cell? ⟨w.heap.size, 3, none⟩ = some (.slice A2 I.cost.length c2) := (Bi_1.cell 3).trans rfl
    have i_1_f3 := Bi_1.frozen 3
    have i_1_c4 : v1.cell? ⟨w.heap.size, 4, none⟩ = some (.int .i64 I.size) := (Bi_1.cell 4).trans rfl
    have i_1_f4 := Bi_1.frozen 4
    have i_1_c5 : v1.cell? ⟨w.heap.size, 5, none⟩ = some (.slice A3 I.sets.length c3) := (Bi_1.cell 5).trans rfl
    have i_1_f5 := Bi_1.frozen 5
    go_wp2
    go_ret
    exact ⟨rfl, bl1⟩
  · cases b
    · go_enter Tryd.func19, Tryd.ntmps19
      go_wp2_with fail
      (with_reducible refine (H1.out _).mono ?_); rintro e v1 ⟨rfl, hb1⟩
      have st1 := bl_step (bl_alloc (Below.refl _ _) _) hb1
      have bl1 := st1
      have Bi_1 : Blk v1 (w.heap.size) 27 #[.int .i64 I.kind, .int .i64 I.cap, .slice A1 I.items.length c1, .slice A2 I.cost.length c2, .int .i64 I.size, .slice A3 I.sets.length c3] := (Blk.new _ _ _).below hb1
      have i_1_z : w.heap.size < v1.heap.size := Bi_1.lt
      have i_1_c0 : v1.cell? ⟨w.heap.size, 0, none⟩ = some (.int .i64 I.kind) := (Bi_1.cell 0).trans rfl
      have i_1_f0 := Bi_1.frozen 0
      have i_1_c1 : v1.cell? ⟨w.heap.size, 1, none⟩ = some (.int .i64 I.cap) := (Bi_1.cell 1).trans rfl
      have i_1_f1 := Bi_1.frozen 1
      have i_1_c2 : v1.cell? ⟨w.heap.size, 2, none⟩ = some (.slice A1 I.items.length c1) := (Bi_1.cell 2).trans rfl
      have i_1_f2 := Bi_1.frozen 2
      have i_1_c3 : v1.cell? ⟨w.heap.size, 3, none⟩ = some (.slice A2 I.cost.length c2) := (Bi_1.cell 3).trans rfl
      have i_1_f3 := Bi_1.frozen 3
      have i_1_c4 : v1.cell? ⟨w.heap.size, 4, none⟩ = some (.int .i64 I.size) := (Bi_1.cell 4).trans rfl
      have i_1_f4 := Bi_1.frozen 4
      have i_1_c5 : v1.cell? ⟨w.heap.size, 5, none⟩ = some (.slice A3 I.sets.length c3) := (Bi_1.cell 5).trans rfl
      have i_1_f5 := Bi_1.frozen 5
      go_wp2_with fail
      (with_reducible refine (H2.out _).mono ?_); rintro e v2 ⟨rfl, hb2⟩
      have st2 := bl_step (Below.refl _ _) hb2
      have bl2 := bl_step bl1 st2
      clear i_1_z i_1_c0 i_1_f0 i_1_c1 i_1_f1 i_1_c2 i_1_f2 i_1_c3 i_1_f3 i_1_c4 i_1_f4 i_1_c5 i_1_f5
      have Bi_2 := Bi_1.below st2
      have i_2_z : w.heap.size < v2.heap.size := Bi_2.lt
      have i_2_c0 : v2.cell? ⟨w.heap.size, 0, none⟩ = some (.int .i64 I.kind) := (Bi_2.cell 0).trans rfl
      have i_2_f0 := Bi_2.frozen 0
      have i_2_c1 : v2.cell? ⟨w.heap.size, 1, none⟩ = some (.int .i64 I.cap) := (Bi_2.cell 1).trans rfl
      have i_2_f1 := Bi_2.frozen 1
      have i_2_c2 : v2.cell? ⟨w.heap.size, 2, none⟩ = some (.slice A1 I.items.length c1) := (Bi_2.cell 2).trans rfl
      have i_2_f2 := Bi_2.frozen 2
      have i_2_c3 : v2.cell? ⟨w.heap.size, 3, none⟩ = some (.slice A2 I.cost.length c2) := (Bi_2.cell 3).trans rfl
      have i_2_f3 := Bi_2.frozen 3
      have i_2_c4 : v2.cell? ⟨w.heap.size, 4, none⟩ = some (.int .i64 I.size) := (Bi_2.cell 4).trans rfl
      have i_2_f4 := Bi_2.frozen 4
      have i_2_c5 : v2.cell? ⟨w.heap.size, 5, none⟩ = some (.slice A3 I.sets.length c3) := (Bi_2.cell 5).trans rfl
      have i_2_f5 := Bi_2.frozen 5
      go_wp2
      go_ret
      exact ⟨rfl, bl2⟩
    · cases c
      · go_enter Tryd.func19, Tryd.ntmps19
        go_wp2_with fail
        (with_reducible refine (H1.out _).mono ?_); rintro e v1 ⟨rfl, hb1⟩
        have st1 := bl_step (bl_alloc (Below.refl _ _) _) hb1
        have bl1 := st1
        have Bi_1 : Blk v1 (w.heap.size) 27 #[.int .i64 I.kind, .int .i64 I.cap, .slice A1 I.items.length c1, .slice A2 I.cost.length c2, .int .i64 I.size, .slice A3 I.sets.length c3] := (Blk.new _ _ _).below hb1
        have i_1_z : w.heap.size < v1.heap.size := Bi_1.lt
        have i_1_c0 : v1.cell? ⟨w.heap.size, 0, none⟩ = some (.int .i64 I.kind) := (Bi_1.cell 0).trans rfl
        have i_1_f0 := Bi_1.frozen 0
        have i_1_c1 : v1.cell? ⟨w.heap.size, 1, none⟩ = some (.int .i64 I.cap) := (Bi_1.cell 1).trans rfl
        have i_1_f1 := Bi_1.frozen 1
        have i_1_c2 : v1.cell? ⟨w.heap.size, 2, none⟩ = some (.slice A1 I.items.length c1) := (Bi_1.cell 2).trans rfl
        have i_1_f2 := Bi_1.frozen 2
        have i_1_c3 : v1.cell? ⟨w.heap.size, 3, none⟩ = some (.slice A2 I.cost.length c2) := (Bi_1.cell 3).trans rfl
        have i_1_f3 := Bi_1.frozen 3
        have i_1_c4 : v1.cell? ⟨w.heap.size, 4, none⟩ = some (.int .i64 I.size) := (Bi_1.cell 4).trans rfl
        have i_1_f4 := Bi_1.frozen 4
        have i_1_c5 : v1.cell? ⟨w.heap.size, 5, none⟩ = some (.slice A3 I.sets.length c3) := (Bi_1.cell 5).trans rfl
        have i_1_f5 := Bi_1.frozen 5
        go_wp2_with fail
        (with_reducible refine (H2.out _).mono ?_); rintro e v2 ⟨rfl, hb2⟩
        have st2 := bl_step (Below.refl _ _) hb2
        have bl2 := bl_step bl1 st2
        clear i_1_z i_1_c0 i_1_f0 i_1_c1 i_1_f1 i_1_c2 i_1_f2 i_1_c3 i_1_f3 i_1_c4 i_1_f4 i_1_c5 i_1_f5
        have Bi_2 := Bi_1.below st2
        have i_2_z : w.heap.size < v2.heap.size := Bi_2.lt
        have i_2_c0 : v2.cell? ⟨w.heap.size, 0, none⟩ = some (.int .i64 I.kind) := (Bi_2.cell 0).trans rfl
        have i_2_f0 := Bi_2.frozen 0
        have i_2_c1 : v2.cell? ⟨w.heap.size, 1, none⟩ = some (.int .i64 I.cap) := (Bi_2.cell 1).trans rfl
        have i_2_f1 := Bi_2.frozen 1
        have i_2_c2 : v2.cell? ⟨w.heap.size, 2, none⟩ = some (.slice A1 I.items.length c1) := (Bi_2.cell 2).trans rfl
        have i_2_f2 := Bi_2.frozen 2
        have i_2_c3 : v2.cell? ⟨w.heap.size, 3, none⟩ = some (.slice A2 I.cost.length c2) := (Bi_2.cell 3).trans rfl
        have i_2_f3 := Bi_2.frozen 3
        have i_2_c4 : v2.cell? ⟨w.heap.size, 4, none⟩ = some (.int .i64 I.size) := (Bi_2.cell 4).trans rfl
        have i_2_f4 := Bi_2.frozen 4
        have i_2_c5 : v2.cell? ⟨w.heap.size, 5, none⟩ = some (.slice A3 I.sets.length c3) := (Bi_2.cell 5).trans rfl
        have i_2_f5 := Bi_2.frozen 5
        go_wp2_with fail
        (with_reducible refine (H3.out _).mono ?_); rintro e v3 ⟨rfl, hb3⟩
        have st3 := bl_step (Below.refl _ _) hb3
        have bl3 := bl_step bl2 st3
        clear i_2_z i_2_c0 i_2_f0 i_2_c1 i_2_f1 i_2_c2 i_2_f2 i_2_c3 i_2_f3 i_2_c4 i_2_f4 i_2_c5 i_2_f5
        have Bi_3 := Bi_2.below st3
        have i_3_z : w.heap.size < v3.heap.size := Bi_3.lt
        have i_3_c0 : v3.cell? ⟨w.heap.size, 0, none⟩ = some (.int .i64 I.kind) := (Bi_3.cell 0).trans rfl
        have i_3_f0 := Bi_3.frozen 0
        have i_3_c1 : v3.cell? ⟨w.heap.size, 1, none⟩ = some (.int .i64 I.cap) := (Bi_3.cell 1).trans rfl
        have i_3_f1 := Bi_3.frozen 1
        have i_3_c2 : v3.cell? ⟨w.heap.size, 2, none⟩ = some (.slice A1 I.items.length c1) := (Bi_3.cell 2).trans rfl
        have i_3_f2 := Bi_3.frozen 2
        have i_3_c3 : v3.cell? ⟨w.heap.size, 3, none⟩ = some (.slice A2 I.cost.length c2) := (Bi_3.cell 3).trans rfl
        have i_3_f3 := Bi_3.frozen 3
        have i_3_c4 : v3.cell? ⟨w.heap.size, 4, none⟩ = some (.int .i64 I.size) := (Bi_3.cell 4).trans rfl
        have i_3_f4 := Bi_3.frozen 4
        have i_3_c5 : v3.cell? ⟨w.heap.size, 5, none⟩ = some (.slice A3 I.sets.length c3) := (Bi_3.cell 5).trans rfl
        have i_3_f5 := Bi_3.frozen 5
        go_wp2
        go_ret
        exact ⟨rfl, bl3⟩
      · cases d
        · go_enter Tryd.func19, Tryd.ntmps19
          go_wp2_with fail
          (with_reducible refine (H1.out _).mono ?_); rintro e v1 ⟨rfl, hb1⟩
          have st1 := bl_step (bl_alloc (Below.refl _ _) _) hb1
          have bl1 := st1
          have Bi_1 : Blk v1 (w.heap.size) 27 #[.int .i64 I.kind, .int .i64 I.cap, .slice A1 I.items.length c1, .slice A2 I.cost.length c2, .int .i64 I.size, .slice A3 I.sets.length c3] := (Blk.new _ _ _).below hb1
          have i_1_z : w.heap.size < v1.heap.size := Bi_1.lt
          have i_1_c0 : v1.cell? ⟨w.heap.size, 0, none⟩ = some (.int .i64 I.kind) := (Bi_1.cell 0).trans rfl
          have i_1_f0 := Bi_1.frozen 0
          have i_1_c1 : v1.cell? ⟨w.heap.size, 1, none⟩ = some (.int .i64 I.cap) := (Bi_1.cell 1).trans rfl
          have i_1_f1 := Bi_1.frozen 1
          have i_1_c2 : v1.cell? ⟨w.heap.size, 2, none⟩ = some (.slice A1 I.items.length c1) := (Bi_1.cell 2).trans rfl
          have i_1_f2 := Bi_1.frozen 2
          have i_1_c3 : v1.cell? ⟨w.heap.size, 3, none⟩ = some (.slice A2 I.cost.length c2) := (Bi_1.cell 3).trans rfl
          have i_1_f3 := Bi_1.frozen 3
          have i_1_c4 : v1.cell? ⟨w.heap.size, 4, none⟩ = some (.int .i64 I.size) := (Bi_1.cell 4).trans rfl
          have i_1_f4 := Bi_1.frozen 4
          have i_1_c5 : v1.cell? ⟨w.heap.size, 5, none⟩ = some (.slice A3 I.sets.length c3) := (Bi_1.cell 5).trans rfl
          have i_1_f5 := Bi_1.frozen 5
          go_wp2_with fail
          (with_reducible refine (H2.out _).mono ?_); rintro e v2 ⟨rfl, hb2⟩
          have st2 := bl_step (Below.refl _ _) hb2
          have bl2 := bl_step bl1 st2
          clear i_1_z i_1_c0 i_1_f0 i_1_c1 i_1_f1 i_1_c2 i_1_f2 i_1_c3 i_1_f3 i_1_c4 i_1_f4 i_1_c5 i_1_f5
          have Bi_2 := Bi_1.below st2
          have i_2_z : w.heap.size < v2.heap.size := Bi_2.lt
          have i_2_c0 : v2.cell? ⟨w.heap.size, 0, none⟩ = some (.int .i64 I.kind) := (Bi_2.cell 0).trans rfl
          have i_2_f0 := Bi_2.frozen 0
          have i_2_c1 : v2.cell? ⟨w.heap.size, 1, none⟩ = some (.int .i64 I.cap) := (Bi_2.cell 1).trans rfl
          have i_2_f1 := Bi_2.frozen 1
          have i_2_c2 : v2.cell? ⟨w.heap.size, 2, none⟩ = some (.slice A1 I.items.length c1) := (Bi_2.cell 2).trans rfl
          have i_2_f2 := Bi_2.frozen 2
          have i_2_c3 : v2.cell? ⟨w.heap.size, 3, none⟩ = some (.slice A2 I.cost.length c2) := (Bi_2.cell 3).trans rfl
          have i_2_f3 := Bi_2.frozen 3
          have i_2_c4 : v2.cell? ⟨w.heap.size, 4, none⟩ = some (.int .i64 I.size) := (Bi_2.cell 4).trans rfl
          have i_2_f4 := Bi_2.frozen 4
          have i_2_c5 : v2.cell? ⟨w.heap.size, 5, none⟩ = some (.slice A3 I.sets.length c3) := (Bi_2.cell 5).trans rfl
          have i_2_f5 := Bi_2.frozen 5
          go_wp2_with fail
          (with_reducible refine (H3.out _).mono ?_); rintro e v3 ⟨rfl, hb3⟩
          have st3 := bl_step (Below.refl _ _) hb3
          have bl3 := bl_step bl2 st3
          clear i_2_z i_2_c0 i_2_f0 i_2_c1 i_2_f1 i_2_c2 i_2_f2 i_2_c3 i_2_f3 i_2_c4 i_2_f4 i_2_c5 i_2_f5
          have Bi_3 := Bi_2.below st3
          have i_3_z : w.heap.size < v3.heap.size := Bi_3.lt
          have i_3_c0 : v3.cell? ⟨w.heap.size, 0, none⟩ = some (.int .i64 I.kind) := (Bi_3.cell 0).trans rfl
          have i_3_f0 := Bi_3.frozen 0
          have i_3_c1 : v3.cell? ⟨w.heap.size, 1, none⟩ = some (.int .i64 I.cap) := (Bi_3.cell 1).trans rfl
          have i_3_f1 := Bi_3.frozen 1
          have i_3_c2 : v3.cell? ⟨w.heap.size, 2, none⟩ = some (.slice A1 I.items.length c1) := (Bi_3.cell 2).trans rfl
          have i_3_f2 := Bi_3.frozen 2
          have i_3_c3 : v3.cell? ⟨w.heap.size, 3, none⟩ = some (.slice A2 I.cost.length c2) := (Bi_3.cell 3).trans rfl
          have i_3_f3 := Bi_3.frozen 3
          have i_3_c4 : v3.cell? ⟨w.heap.size, 4, none⟩ = some (.int .i64 I.size) := (Bi_3.cell 4).trans rfl
          have i_3_f4 := Bi_3.frozen 4
          have i_3_c5 : v3.cell? ⟨w.heap.size, 5, none⟩ = some (.slice A3 I.sets.length c3) := (Bi_3.cell 5).trans rfl
          have i_3_f5 := Bi_3.frozen 5
          go_wp2_with fail
          (with_reducible refine (H4.out _ bl3).mono ?_); rintro e v4 ⟨rfl, hb4⟩
          have st4 := bl_step (Below.refl _ _) hb4
          have bl4 := bl_step bl3 st4
          clear i_3_z i_3_c0 i_3_f0 i_3_c1 i_3_f1 i_3_c2 i_3_f2 i_3_c3 i_3_f3 i_3_c4 i_3_f4 i_3_c5 i_3_f5
          have Bi_4 := Bi_3.below st4
          have i_4_z : w.heap.size < v4.heap.size := Bi_4.lt
          have i_4_c0 : v4.cell? ⟨w.heap.size, 0, none⟩ = some (.int .i64 I.kind) := (Bi_4.cell 0).trans rfl
          have i_4_f0 := Bi_4.frozen 0
          have i_4_c1 : v4.cell? ⟨w.heap.size, 1, none⟩ = some (.int .i64 I.cap) := (Bi_4.cell 1).trans rfl
          have i_4_f1 := Bi_4.frozen 1
          have i_4_c2 : v4.cell? ⟨w.heap.size, 2, none⟩ = some (.slice A1 I.items.length c1) := (Bi_4.cell 2).trans rfl
          have i_4_f2 := Bi_4.frozen 2
          have i_4_c3 : v4.cell? ⟨w.heap.size, 3, none⟩ = some (.slice A2 I.cost.length c2) := (Bi_4.cell 3).trans rfl
          have i_4_f3 := Bi_4.frozen 3
          have i_4_c4 : v4.cell? ⟨w.heap.size, 4, none⟩ = some (.int .i64 I.size) := (Bi_4.cell 4).trans rfl
          have i_4_f4 := Bi_4.frozen 4
          have i_4_c5 : v4.cell? ⟨w.heap.size, 5, none⟩ = some (.slice A3 I.sets.length c3) := (Bi_4.cell 5).trans rfl
          have i_4_f5 := Bi_4.frozen 5
          go_wp2
          go_ret
          exact ⟨rfl, bl4⟩
        · replace H6 := Lib.hid (H6.out rfl)
          cases x
          · go_enter Tryd.func19, Tryd.ntmps19
            go_wp2_with fail
            (with_reducible refine (H1.out _).mono ?_); rintro e v1 ⟨rfl, hb1⟩
            have st1 := bl_step (bl_alloc (Below.refl _ _) _) hb1
            have bl1 := st1
            have Bi_1 : Blk v1 (w.heap.size) 27 #[.int .i64 I.kind, .int .i64 I.cap, .slice A1 I.items.length c1, .slice A2 I.cost.length c2, .int .i64 I.size, .slice A3 I.sets.length c3] := (Blk.new _ _ _).below hb1
            have i_1_z : w.heap.size < v1.heap.size := Bi_1.lt
            have i_1_c0 : v1.cell? ⟨w.heap.size, 0, none⟩ = some (.int .i64 I.kind) := (Bi_1.cell 0).trans rfl
            have i_1_f0 := Bi_1.frozen 0
            have i_1_c1 : v1.cell? ⟨w.heap.size, 1, none⟩ = some (.int .i64 I.cap) := (Bi_1.cell 1).trans rfl
            have i_1_f1 := Bi_1.frozen 1
            have i_1_c2 : v1.cell? ⟨w.heap.size, 2, none⟩ = some (.slice A1 I.items.length c1) := (Bi_1.cell 2).trans rfl
            have i_1_f2 := Bi_1.frozen 2
            have i_1_c3 : v1.cell? ⟨w.heap.size, 3, none⟩ = some (.slice A2 I.cost.length c2) := (Bi_1.cell 3).trans rfl
            have i_1_f3 := Bi_1.frozen 3
            have i_1_c4 : v1.cell? ⟨w.heap.size, 4, none⟩ = some (.int .i64 I.size) := (Bi_1.cell 4).trans rfl
            have i_1_f4 := Bi_1.frozen 4
            have i_1_c5 : v1.cell? ⟨w.heap.size, 5, none⟩ = some (.slice A3 I.sets.length c3) := (Bi_1.cell 5).trans rfl
            have i_1_f5 := Bi_1.frozen 5
            go_wp2_with fail
            (with_reducible refine (H2.out _).mono ?_); rintro e v2 ⟨rfl, hb2⟩
            have st2 := bl_step (Below.refl _ _) hb2
            have bl2 := bl_step bl1 st2
            clear i_1_z i_1_c0 i_1_f0 i_1_c1 i_1_f1 i_1_c2 i_1_f2 i_1_c3 i_1_f3 i_1_c4 i_1_f4 i_1_c5 i_1_f5
            have Bi_2 := Bi_1.below st2
            have i_2_z : w.heap.size < v2.heap.size := Bi_2.lt
            have i_2_c0 : v2.cell? ⟨w.heap.size, 0, none⟩ = some (.int .i64 I.kind) := (Bi_2.cell 0).trans rfl
            have i_2_f0 := Bi_2.frozen 0
            have i_2_c1 : v2.cell? ⟨w.heap.size, 1, none⟩ = some (.int .i64 I.cap) := (Bi_2.cell 1).trans rfl
            have i_2_f1 := Bi_2.frozen 1
            have i_2_c2 : v2.cell? ⟨w.heap.size, 2, none⟩ = some (.slice A1 I.items.length c1) := (Bi_2.cell 2).trans rfl
            have i_2_f2 := Bi_2.frozen 2
            have i_2_c3 : v2.cell? ⟨w.heap.size, 3, none⟩ = some (.slice A2 I.cost.length c2) := (Bi_2.cell 3).trans rfl
            have i_2_f3 := Bi_2.frozen 3
            have i_2_c4 : v2.cell? ⟨w.heap.size, 4, none⟩ = some (.int .i64 I.size) := (Bi_2.cell 4).trans rfl
            have i_2_f4 := Bi_2.frozen 4
            have i_2_c5 : v2.cell? ⟨w.heap.size, 5, none⟩ = some (.slice A3 I.sets.length c3) := (Bi_2.cell 5).trans rfl
            have i_2_f5 := Bi_2.frozen 5
            go_wp2_with fail
            (with_reducible refine (H3.out _).mono ?_); rintro e v3 ⟨rfl, hb3⟩
            have st3 := bl_step (Below.refl _ _) hb3
            have bl3 := bl_step bl2 st3
            clear i_2_z i_2_c0 i_2_f0 i_2_c1 i_2_f1 i_2_c2 i_2_f2 i_2_c3 i_2_f3 i_2_c4 i_2_f4 i_2_c5 i_2_f5
            have Bi_3 := Bi_2.below st3
            have i_3_z : w.heap.size < v3.heap.size := Bi_3.lt
            have i_3_c0 : v3.cell? ⟨w.heap.size, 0, none⟩ = some (.int .i64 I.kind) := (Bi_3.cell 0).trans rfl
            have i_3_f0 := Bi_3.frozen 0
            have i_3_c1 : v3.cell? ⟨w.heap.size, 1, none⟩ = some (.int .i64 I.cap) := (Bi_3.cell 1).trans rfl
            have i_3_f1 := Bi_3.frozen 1
            have i_3_c2 : v3.cell? ⟨w.heap.size, 2, none⟩ = some (.slice A1 I.items.length c1) := (Bi_3.cell 2).trans rfl
            have i_3_f2 := Bi_3.frozen 2
            have i_3_c3 : v3.cell? ⟨w.heap.size, 3, none⟩ = some (.slice A2 I.cost.length c2) := (Bi_3.cell 3).trans rfl
            have i_3_f3 := Bi_3.frozen 3
            have i_3_c4 : v3.cell? ⟨w.heap.size, 4, none⟩ = some (.int .i64 I.size) := (Bi_3.cell 4).trans rfl
            have i_3_f4 := Bi_3.frozen 4
            have i_3_c5 : v3.cell? ⟨w.heap.size, 5, none⟩ = some (.slice A3 I.sets.length c3) := (Bi_3.cell 5).trans rfl
            have i_3_f5 := Bi_3.frozen 5
            go_wp2_with fail
            (with_reducible refine (H4.out _ bl3).mono ?_); rintro e v4 ⟨rfl, hb4⟩
            have st4 := bl_step (Below.refl _ _) hb4
            have bl4 := bl_step bl3 st4
            clear i_3_z i_3_c0 i_3_f0 i_3_c1 i_3_f1 i_3_c2 i_3_f2 i_3_c3 i_3_f3 i_3_c4 i_3_f4 i_3_c5 i_3_f5
            have Bi_4 := Bi_3.below st4
            have i_4_z : w.heap.size < v4.heap.size := Bi_4.lt
            have i_4_c0 : v4.cell? ⟨w.heap.size, 0, none⟩ = some (.int .i64 I.kind) := (Bi_4.cell 0).trans rfl
            have i_4_f0 := Bi_4.frozen 0
            have i_4_c1 : v4.cell? ⟨w.heap.size, 1, none⟩ = some (.int .i64 I.cap) := (Bi_4.cell 1).trans rfl
            have i_4_f1 := Bi_4.frozen 1
            have i_4_c2 : v4.cell? ⟨w.heap.size, 2, none⟩ = some (.slice A1 I.items.length c1) := (Bi_4.cell 2).trans rfl
            have i_4_f2 := Bi_4.frozen 2
            have i_4_c3 : v4.cell? ⟨w.heap.size, 3, none⟩ = some (.slice A2 I.cost.length c2) := (Bi_4.cell 3).trans rfl
            have i_4_f3 := Bi_4.frozen 3
            have i_4_c4 : v4.cell? ⟨w.heap.size, 4, none⟩ = some (.int .i64 I.size) := (Bi_4.cell 4).trans rfl
            have i_4_f4 := Bi_4.frozen 4
            have i_4_c5 : v4.cell? ⟨w.heap.size, 5, none⟩ = some (.slice A3 I.sets.length c3) := (Bi_4.cell 5).trans rfl
            have i_4_f5 := Bi_4.frozen 5
            go_wp2_with fail
            (with_reducible refine (H5.out _ bl4).mono ?_); rintro e v5 ⟨rfl, hb5⟩
            have st5 := bl_step (Below.refl _ _) hb5
            have bl5 := bl_step bl4 st5
            clear i_4_z i_4_c0 i_4_f0 i_4_c1 i_4_f1 i_4_c2 i_4_f2 i_4_c3 i_4_f3 i_4_c4 i_4_f4 i_4_c5 i_4_f5
            have Bi_5 := Bi_4.below st5
            have i_5_z : w.heap.size < v5.heap.size := Bi_5.lt
            have i_5_c0 : v5.cell? ⟨w.heap.size, 0, none⟩ = some (.int .i64 I.kind) := (Bi_5.cell 0).trans rfl
            have i_5_f0 := Bi_5.frozen 0
            have i_5_c1 : v5.cell? ⟨w.heap.size, 1, none⟩ = some (.int .i64 I.cap) := (Bi_5.cell 1).trans rfl
            have i_5_f1 := Bi_5.frozen 1
            have i_5_c2 : v5.cell? ⟨w.heap.size, 2, none⟩ = some (.slice A1 I.items.length c1) := (Bi_5.cell 2).trans rfl
            have i_5_f2 := Bi_5.frozen 2
            have i_5_c3 : v5.cell? ⟨w.heap.size, 3, none⟩ = some (.slice A2 I.cost.length c2) := (Bi_5.cell 3).trans rfl
            have i_5_f3 := Bi_5.frozen 3
            have i_5_c4 : v5.cell? ⟨w.heap.size, 4, none⟩ = some (.int .i64 I.size) := (Bi_5.cell 4).trans rfl
            have i_5_f4 := Bi_5.frozen 4
            have i_5_c5 : v5.cell? ⟨w.heap.size, 5, none⟩ = some (.slice A3 I.sets.length c3) := (Bi_5.cell 5).trans rfl
            have i_5_f5 := Bi_5.frozen 5
            go_wp2
            go_ret
            exact ⟨rfl, bl5⟩
          · cases f
            · go_enter Tryd.func19, Tryd.ntmps19
              go_wp2_with fail
              (with_reducible refine (H1.out _).mono ?_); rintro e v1 ⟨rfl, hb1⟩
              have st1 := bl_step (bl_alloc (Below.refl _ _) _) hb1
              have bl1 := st1
              have Bi_1 : Blk v1 (w.heap.size) 27 #[.int .i64 I.kind, .int .i64 I.cap, .slice A1 I.items.length c1, .slice A2 I.cost.length c2, .int .i64 I.size, .slice A3 I.sets.length c3] := (Blk.new _ _ _).below hb1
              have i_1_z : w.heap.size < v1.heap.size := Bi_1.lt
              have i_1_c0 : v1.cell? ⟨w.heap.size, 0, none⟩ = some (.int .i64 I.kind) := (Bi_1.cell 0).trans rfl
              have i_1_f0 := Bi_1.frozen 0
              have i_1_c1 : v1.cell? ⟨w.heap.size, 1, none⟩ = some (.int .i64 I.cap) := (Bi_1.cell 1).trans rfl
              have i_1_f1 := Bi_1.frozen 1
              have i_1_c2 : v1.cell? ⟨w.heap.size, 2, none⟩ = some (.slice A1 I.items.length c1) := (Bi_1.cell 2).trans rfl
              have i_1_f2 := Bi_1.frozen 2
              have i_1_c3 : v1.cell? ⟨w.heap.size, 3, none⟩ = some (.slice A2 I.cost.length c2) := (Bi_1.cell 3).trans rfl
              have i_1_f3 := Bi_1.frozen 3
              have i_1_c4 : v1.cell? ⟨w.heap.size, 4, none⟩ = some (.int .i64 I.size) := (Bi_1.cell 4).trans rfl
              have i_1_f4 := Bi_1.frozen 4
              have i_1_c5 : v1.cell? ⟨w.heap.size, 5, none⟩ = some (.slice A3 I.sets.length c3) := (Bi_1.cell 5).trans rfl
              have i_1_f5 := Bi_1.frozen 5
              go_wp2_with fail
              (with_reducible refine (H2.out _).mono ?_); rintro e v2 ⟨rfl, hb2⟩
              have st2 := bl_step (Below.refl _ _) hb2
              have bl2 := bl_step bl1 st2
              clear i_1_z i_1_c0 i_1_f0 i_1_c1 i_1_f1 i_1_c2 i_1_f2 i_1_c3 i_1_f3 i_1_c4 i_1_f4 i_1_c5 i_1_f5
              have Bi_2 := Bi_1.below st2
              have i_2_z : w.heap.size < v2.heap.size := Bi_2.lt
              have i_2_c0 : v2.cell? ⟨w.heap.size, 0, none⟩ = some (.int .i64 I.kind) := (Bi_2.cell 0).trans rfl
              have i_2_f0 := Bi_2.frozen 0
              have i_2_c1 : v2.cell? ⟨w.heap.size, 1, none⟩ = some (.int .i64 I.cap) := (Bi_2.cell 1).trans rfl
              have i_2_f1 := Bi_2.frozen 1
              have i_2_c2 : v2.cell? ⟨w.heap.size, 2, none⟩ = some (.slice A1 I.items.length c1) := (Bi_2.cell 2).trans rfl
              have i_2_f2 := Bi_2.frozen 2
              have i_2_c3 : v2.cell? ⟨w.heap.size, 3, none⟩ = some (.slice A2 I.cost.length c2) := (Bi_2.cell 3).trans rfl
              have i_2_f3 := Bi_2.frozen 3
              have i_2_c4 : v2.cell? ⟨w.heap.size, 4, none⟩ = some (.int .i64 I.size) := (Bi_2.cell 4).trans rfl
              have i_2_f4 := Bi_2.frozen 4
              have i_2_c5 : v2.cell? ⟨w.heap.size, 5, none⟩ = some (.slice A3 I.sets.length c3) := (Bi_2.cell 5).trans rfl
              have i_2_f5 := Bi_2.frozen 5
              go_wp2_with fail
              (with_reducible refine (H3.out _).mono ?_); rintro e v3 ⟨rfl, hb3⟩
              have st3 := bl_step (Below.refl _ _) hb3
              have bl3 := bl_step bl2 st3
              clear i_2_z i_2_c0 i_2_f0 i_2_c1 i_2_f1 i_2_c2 i_2_f2 i_2_c3 i_2_f3 i_2_c4 i_2_f4 i_2_c5 i_2_f5
              have Bi_3 := Bi_2.below st3
              have i_3_z : w.heap.size < v3.heap.size := Bi_3.lt
              have i_3_c0 : v3.cell? ⟨w.heap.size, 0, none⟩ = some (.int .i64 I.kind) := (Bi_3.cell 0).trans rfl
              have i_3_f0 := Bi_3.frozen 0
              have i_3_c1 : v3.cell? ⟨w.heap.size, 1, none⟩ = some (.int .i64 I.cap) := (Bi_3.cell 1).trans rfl
              have i_3_f1 := Bi_3.frozen 1
              have i_3_c2 : v3.cell? ⟨w.heap.size, 2, none⟩ = some (.slice A1 I.items.length c1) := (Bi_3.cell 2).trans rfl
              have i_3_f2 := Bi_3.frozen 2
              have i_3_c3 : v3.cell? ⟨w.heap.size, 3, none⟩ = some (.slice A2 I.cost.length c2) := (Bi_3.cell 3).trans rfl
              have i_3_f3 := Bi_3.frozen 3
              have i_3_c4 : v3.cell? ⟨w.heap.size, 4, none⟩ = some (.int .i64 I.size) := (Bi_3.cell 4).trans rfl
              have i_3_f4 := Bi_3.frozen 4
              have i_3_c5 : v3.cell? ⟨w.heap.size, 5, none⟩ = some (.slice A3 I.sets.length c3) := (Bi_3.cell 5).trans rfl
              have i_3_f5 := Bi_3.frozen 5
              go_wp2_with fail
              (with_reducible refine (H4.out _ bl3).mono ?_); rintro e v4 ⟨rfl, hb4⟩
              have st4 := bl_step (Below.refl _ _) hb4
              have bl4 := bl_step bl3 st4
              clear i_3_z i_3_c0 i_3_f0 i_3_c1 i_3_f1 i_3_c2 i_3_f2 i_3_c3 i_3_f3 i_3_c4 i_3_f4 i_3_c5 i_3_f5
              have Bi_4 := Bi_3.below st4
              have i_4_z : w.heap.size < v4.heap.size := Bi_4.lt
              have i_4_c0 : v4.cell? ⟨w.heap.size, 0, none⟩ = some (.int .i64 I.kind) := (Bi_4.cell 0).trans rfl
              have i_4_f0 := Bi_4.frozen 0
              have i_4_c1 : v4.cell? ⟨w.heap.size, 1, none⟩ = some (.int .i64 I.cap) := (Bi_4.cell 1).trans rfl
              have i_4_f1 := Bi_4.frozen 1
              have i_4_c2 : v4.cell? ⟨w.heap.size, 2, none⟩ = some (.slice A1 I.items.length c1) := (Bi_4.cell 2).trans rfl
              have i_4_f2 := Bi_4.frozen 2
              have i_4_c3 : v4.cell? ⟨w.heap.size, 3, none⟩ = some (.slice A2 I.cost.length c2) := (Bi_4.cell 3).trans rfl
              have i_4_f3 := Bi_4.frozen 3
              have i_4_c4 : v4.cell? ⟨w.heap.size, 4, none⟩ = some (.int .i64 I.size) := (Bi_4.cell 4).trans rfl
              have i_4_f4 := Bi_4.frozen 4
              have i_4_c5 : v4.cell? ⟨w.heap.size, 5, none⟩ = some (.slice A3 I.sets.length c3) := (Bi_4.cell 5).trans rfl
              have i_4_f5 := Bi_4.frozen 5
              go_wp2_with fail
              (with_reducible refine (H5.out _ bl4).mono ?_); rintro e v5 ⟨rfl, hb5⟩
              have st5 := bl_step (Below.refl _ _) hb5
              have bl5 := bl_step bl4 st5
              clear i_4_z i_4_c0 i_4_f0 i_4_c1 i_4_f1 i_4_c2 i_4_f2 i_4_c3 i_4_f3 i_4_c4 i_4_f4 i_4_c5 i_4_f5
              have Bi_5 := Bi_4.below st5
              have i_5_z : w.heap.size < v5.heap.size := Bi_5.lt
              have i_5_c0 : v5.cell? ⟨w.heap.size, 0, none⟩ = some (.int .i64 I.kind) := (Bi_5.cell 0).trans rfl
              have i_5_f0 := Bi_5.frozen 0
              have i_5_c1 : v5.cell? ⟨w.heap.size, 1, none⟩ = some (.int .i64 I.cap) := (Bi_5.cell 1).trans rfl
              have i_5_f1 := Bi_5.frozen 1
              have i_5_c2 : v5.cell? ⟨w.heap.size, 2, none⟩ = some (.slice A1 I.items.length c1) := (Bi_5.cell 2).trans rfl
              have i_5_f2 := Bi_5.frozen 2
              have i_5_c3 : v5.cell? ⟨w.heap.size, 3, none⟩ = some (.slice A2 I.cost.length c2) := (Bi_5.cell 3).trans rfl
              have i_5_f3 := Bi_5.frozen 3
              have i_5_c4 : v5.cell? ⟨w.heap.size, 4, none⟩ = some (.int .i64 I.size) := (Bi_5.cell 4).trans rfl
              have i_5_f4 := Bi_5.frozen 4
              have i_5_c5 : v5.cell? ⟨w.heap.size, 5, none⟩ = some (.slice A3 I.sets.length c3) := (Bi_5.cell 5).trans rfl
              have i_5_f5 := Bi_5.frozen 5
              go_wp2_with fail
              (with_reducible refine (H6.out _ bl5).mono ?_); rintro e v6 ⟨rfl, hb6⟩
              have st6 := bl_step (Below.refl _ _) hb6
              have bl6 := bl_step bl5 st6
              clear i_5_z i_5_c0 i_5_f0 i_5_c1 i_5_f1 i_5_c2 i_5_f2 i_5_c3 i_5_f3 i_5_c4 i_5_f4 i_5_c5 i_5_f5
              have Bi_6 := Bi_5.below st6
              have i_6_z : w.heap.size < v6.heap.size := Bi_6.lt
              have i_6_c0 : v6.cell? ⟨w.heap.size, 0, none⟩ = some (.int .i64 I.kind) := (Bi_6.cell 0).trans rfl
              have i_6_f0 := Bi_6.frozen 0
              have i_6_c1 : v6.cell? ⟨w.heap.size, 1, none⟩ = some (.int .i64 I.cap) := (Bi_6.cell 1).trans rfl
              have i_6_f1 := Bi_6.frozen 1
              have i_6_c2 : v6.cell? ⟨w.heap.size, 2, none⟩ = some (.slice A1 I.items.length c1) := (Bi_6.cell 2).trans rfl
              have i_6_f2 := Bi_6.frozen 2
              have i_6_c3 : v6.cell? ⟨w.heap.size, 3, none⟩ = some (.slice A2 I.cost.length c2) := (Bi_6.cell 3).trans rfl
              have i_6_f3 := Bi_6.frozen 3
              have i_6_c4 : v6.cell? ⟨w.heap.size, 4, none⟩ = some (.int .i64 I.size) := (Bi_6.cell 4).trans rfl
              have i_6_f4 := Bi_6.frozen 4
              have i_6_c5 : v6.cell? ⟨w.heap.size, 5, none⟩ = some (.slice A3 I.sets.length c3) := (Bi_6.cell 5).trans rfl
              have i_6_f5 := Bi_6.frozen 5
              go_wp2
              go_ret
              exact ⟨rfl, bl6⟩
            · go_enter Tryd.func19, Tryd.ntmps19
              go_wp2_with fail
              (with_reducible refine (H1.out _).mono ?_); rintro e v1 ⟨rfl, hb1⟩
              have st1 := bl_step (bl_alloc (Below.refl _ _) _) hb1
              have bl1 := st1
              have Bi_1 : Blk v1 (w.heap.size) 27 #[.int .i64 I.kind, .int .i64 I.cap, .slice A1 I.items.length c1, .slice A2 I.cost.length c2, .int .i64 I.size, .slice A3 I.sets.length c3] := (Blk.new _ _ _).below hb1
              have i_1_z : w.heap.size < v1.heap.size := Bi_1.lt
              have i_1_c0 : v1.cell? ⟨w.heap.size, 0, none⟩ = some (.int .i64 I.kind) := (Bi_1.cell 0).trans rfl
              have i_1_f0 := Bi_1.frozen 0
              have i_1_c1 : v1.cell? ⟨w.heap.size, 1, none⟩ = some (.int .i64 I.cap) := (Bi_1.cell 1).trans rfl
              have i_1_f1 := Bi_1.frozen 1
              have i_1_c2 : v1.cell? ⟨w.heap.size, 2, none⟩ = some (.slice A1 I.items.length c1) := (Bi_1.cell 2).trans rfl
              have i_1_f2 := Bi_1.frozen 2
              have i_1_c3 : v1.cell? ⟨w.heap.size, 3, none⟩ = some (.slice A2 I.cost.length c2) := (Bi_1.cell 3).trans rfl
              have i_1_f3 := Bi_1.frozen 3
              have i_1_c4 : v1.cell? ⟨w.heap.size, 4, none⟩ = some (.int .i64 I.size) := (Bi_1.cell 4).trans rfl
              have i_1_f4 := Bi_1.frozen 4
              have i_1_c5 : v1.cell? ⟨w.heap.size, 5, none⟩ = some (.slice A3 I.sets.length c3) := (Bi_1.cell 5).trans rfl
              have i_1_f5 := Bi_1.frozen 5
              go_wp2_with fail
              (with_reducible refine (H2.out _).mono ?_); rintro e v2 ⟨rfl, hb2⟩
              have st2 := bl_step (Below.refl _ _) hb2
              have bl2 := bl_step bl1 st2
              clear i_1_z i_1_c0 i_1_f0 i_1_c1 i_1_f1 i_1_c2 i_1_f2 i_1_c3 i_1_f3 i_1_c4 i_1_f4 i_1_c5 i_1_f5
              have Bi_2 := Bi_1.below st2
              have i_2_z : w.heap.size < v2.heap.size := Bi_2.lt
              have i_2_c0 : v2.cell? ⟨w.heap.size, 0, none⟩ = some (.int .i64 I.kind) := (Bi_2.cell 0).trans rfl
              have i_2_f0 := Bi_2.frozen 0
              have i_2_c1 : v2.cell? ⟨w.heap.size, 1, none⟩ = some (.int .i64 I.cap) := (Bi_2.cell 1).trans rfl
              have i_2_f1 := Bi_2.frozen 1
              have i_2_c2 : v2.cell? ⟨w.heap.size, 2, none⟩ = some (.slice A1 I.items.length c1) := (Bi_2.cell 2).trans rfl
              have i_2_f2 := Bi_2.frozen 2
              have i_2_c3 : v2.cell? ⟨w.heap.size, 3, none⟩ = some (.slice A2 I.cost.length c2) := (Bi_2.cell 3).trans rfl
              have i_2_f3 := Bi_2.frozen 3
              have i_2_c4 : v2.cell? ⟨w.heap.size, 4, none⟩ = some (.int .i64 I.size) := (Bi_2.cell 4).trans rfl
              have i_2_f4 := Bi_2.frozen 4
              have i_2_c5 : v2.cell? ⟨w.heap.size, 5, none⟩ = some (.slice A3 I.sets.length c3) := (Bi_2.cell 5).trans rfl
              have i_2_f5 := Bi_2.frozen 5
              go_wp2_with fail
              (with_reducible refine (H3.out _).mono ?_); rintro e v3 ⟨rfl, hb3⟩
              have st3 := bl_step (Below.refl _ _) hb3
              have bl3 := bl_step bl2 st3
              clear i_2_z i_2_c0 i_2_f0 i_2_c1 i_2_f1 i_2_c2 i_2_f2 i_2_c3 i_2_f3 i_2_c4 i_2_f4 i_2_c5 i_2_f5
              have Bi_3 := Bi_2.below st3
              have i_3_z : w.heap.size < v3.heap.size := Bi_3.lt
              have i_3_c0 : v3.cell? ⟨w.heap.size, 0, none⟩ = some (.int .i64 I.kind) := (Bi_3.cell 0).trans rfl
              have i_3_f0 := Bi_3.frozen 0
              have i_3_c1 : v3.cell? ⟨w.heap.size, 1, none⟩ = some (.int .i64 I.cap) := (Bi_3.cell 1).trans rfl
              have i_3_f1 := Bi_3.frozen 1
              have i_3_c2 : v3.cell? ⟨w.heap.size, 2, none⟩ = some (.slice A1 I.items.length c1) := (Bi_3.cell 2).trans rfl
              have i_3_f2 := Bi_3.frozen 2
              have i_3_c3 : v3.cell? ⟨w.heap.size, 3, none⟩ = some (.slice A2 I.cost.length c2) := (Bi_3.cell 3).trans rfl
              have i_3_f3 := Bi_3.frozen 3
              have i_3_c4 : v3.cell? ⟨w.heap.size, 4, none⟩ = some (.int .i64 I.size) := (Bi_3.cell 4).trans rfl
              have i_3_f4 := Bi_3.frozen 4
              have i_3_c5 : v3.cell? ⟨w.heap.size, 5, none⟩ = some (.slice A3 I.sets.length c3) := (Bi_3.cell 5).trans rfl
              have i_3_f5 := Bi_3.frozen 5
              go_wp2_with fail
              (with_reducible refine (H4.out _ bl3).mono ?_); rintro e v4 ⟨rfl, hb4⟩
              have st4 := bl_step (Below.refl _ _) hb4
              have bl4 := bl_step bl3 st4
              clear i_3_z i_3_c0 i_3_f0 i_3_c1 i_3_f1 i_3_c2 i_3_f2 i_3_c3 i_3_f3 i_3_c4 i_3_f4 i_3_c5 i_3_f5
              have Bi_4 := Bi_3.below st4
              have i_4_z : w.heap.size < v4.heap.size := Bi_4.lt
              have i_4_c0 : v4.cell? ⟨w.heap.size, 0, none⟩ = some (.int .i64 I.kind) := (Bi_4.cell 0).trans rfl
              have i_4_f0 := Bi_4.frozen 0
              have i_4_c1 : v4.cell? ⟨w.heap.size, 1, none⟩ = some (.int .i64 I.cap) := (Bi_4.cell 1).trans rfl
              have i_4_f1 := Bi_4.frozen 1
              have i_4_c2 : v4.cell? ⟨w.heap.size, 2, none⟩ = some (.slice A1 I.items.length c1) := (Bi_4.cell 2).trans rfl
              have i_4_f2 := Bi_4.frozen 2
              have i_4_c3 : v4.cell? ⟨w.heap.size, 3, none⟩ = some (.slice A2 I.cost.length c2) := (Bi_4.cell 3).trans rfl
              have i_4_f3 := Bi_4.frozen 3
              have i_4_c4 : v4.cell? ⟨w.heap.size, 4, none⟩ = some (.int .i64 I.size) := (Bi_4.cell 4).trans rfl
              have i_4_f4 := Bi_4.frozen 4
              have i_4_c5 : v4.cell? ⟨w.heap.size, 5, none⟩ = some (.slice A3 I.sets.length c3) := (Bi_4.cell 5).trans rfl
              have i_4_f5 := Bi_4.frozen 5
              go_wp2_with fail
              (with_reducible refine (H5.out _ bl4).mono ?_); rintro e v5 ⟨rfl, hb5⟩
              have st5 := bl_step (Below.refl _ _) hb5
              have bl5 := bl_step bl4 st5
              clear i_4_z i_4_c0 i_4_f0 i_4_c1 i_4_f1 i_4_c2 i_4_f2 i_4_c3 i_4_f3 i_4_c4 i_4_f4 i_4_c5 i_4_f5
              have Bi_5 := Bi_4.below st5
              have i_5_z : w.heap.size < v5.heap.size := Bi_5.lt
              have i_5_c0 : v5.cell? ⟨w.heap.size, 0, none⟩ = some (.int .i64 I.kind) := (Bi_5.cell 0).trans rfl
              have i_5_f0 := Bi_5.frozen 0
              have i_5_c1 : v5.cell? ⟨w.heap.size, 1, none⟩ = some (.int .i64 I.cap) := (Bi_5.cell 1).trans rfl
              have i_5_f1 := Bi_5.frozen 1
              have i_5_c2 : v5.cell? ⟨w.heap.size, 2, none⟩ = some (.slice A1 I.items.length c1) := (Bi_5.cell 2).trans rfl
              have i_5_f2 := Bi_5.frozen 2
              have i_5_c3 : v5.cell? ⟨w.heap.size, 3, none⟩ = some (.slice A2 I.cost.length c2) := (Bi_5.cell 3).trans rfl
              have i_5_f3 := Bi_5.frozen 3
              have i_5_c4 : v5.cell? ⟨w.heap.size, 4, none⟩ = some (.int .i64 I.size) := (Bi_5.cell 4).trans rfl
              have i_5_f4 := Bi_5.frozen 4
              have i_5_c5 : v5.cell? ⟨w.heap.size, 5, none⟩ = some (.slice A3 I.sets.length c3) := (Bi_5.cell 5).trans rfl
              have i_5_f5 := Bi_5.frozen 5
              go_wp2_with fail
              (with_reducible refine (H6.out _ bl5).mono ?_); rintro e v6 ⟨rfl, hb6⟩
              have st6 := bl_step (Below.refl _ _) hb6
              have bl6 := bl_step bl5 st6
              clear i_5_z i_5_c0 i_5_f0 i_5_c1 i_5_f1 i_5_c2 i_5_f2 i_5_c3 i_5_f3 i_5_c4 i_5_f4 i_5_c5 i_5_f5
              have Bi_6 := Bi_5.below st6
              have i_6_z : w.heap.size < v6.heap.size := Bi_6.lt
              have i_6_c0 : v6.cell? ⟨w.heap.size, 0, none⟩ = some (.int .i64 I.kind) := (Bi_6.cell 0).trans rfl
              have i_6_f0 := Bi_6.frozen 0
              have i_6_c1 : v6.cell? ⟨w.heap.size, 1, none⟩ = some (.int .i64 I.cap) := (Bi_6.cell 1).trans rfl
              have i_6_f1 := Bi_6.frozen 1
              have i_6_c2 : v6.cell? ⟨w.heap.size, 2, none⟩ = some (.slice A1 I.items.length c1) := (Bi_6.cell 2).trans rfl
              have i_6_f2 := Bi_6.frozen 2
              have i_6_c3 : v6.cell? ⟨w.heap.size, 3, none⟩ = some (.slice A2 I.cost.length c2) := (Bi_6.cell 3).trans rfl
              have i_6_f3 := Bi_6.frozen 3
              have i_6_c4 : v6.cell? ⟨w.heap.size, 4, none⟩ = some (.int .i64 I.size) := (Bi_6.cell 4).trans rfl
              have i_6_f4 := Bi_6.frozen 4
              have i_6_c5 : v6.cell? ⟨w.heap.size, 5, none⟩ = some (.slice A3 I.sets.length c3) := (Bi_6.cell 5).trans rfl
              have i_6_f5 := Bi_6.frozen 5
              go_wp2
              go_ret
              exact ⟨rfl, bl6⟩
def nR (I : IData) : Int := if checkR I = 0 then (if I.kind = 0 then (I.items.length : Int) else if I.kind = 1 then (I.cost.length : Int) else if I.kind = 2 then (I.cost.length : Int) - 1 else (I.sets.length : Int)) else 0
end Go.Proofs.YtklomjpnmmaogaaDoor
