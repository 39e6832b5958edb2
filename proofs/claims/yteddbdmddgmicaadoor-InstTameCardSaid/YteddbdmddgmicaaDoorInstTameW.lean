/- The walk of InstTame. -/
import Derived.Test.YteddbdmddgmicaaDoorInstChecksW
import Derived.Test.YteddbdmddgmicaaDoorITa
namespace Go.Proofs.YteddbdmddgmicaaDoor
open Go.RowKit
set_option linter.unusedVariables false
set_option linter.unusedSimpArgs false
set_option maxRecDepth 100000

theorem fin_ck {T' : IData} {wz : World} {k : Nat} {E1 E2 E3 : Option Addr} {e1 e2 e3 : Nat} (h : OwnI wz k 52 56 T' E1 e1 E2 e2 E3 e3) (hc : checkR T' = 22) : Calls Tryd.prog 9 #[.agg #[.int .i64 T'.kind, .int .i64 T'.cap, .slice E1 T'.items.length e1, .slice E2 T'.cost.length e2, .int .i64 T'.size, .slice E3 T'.sets.length e3]] wz fun e w' => e = .returned (.int .i64 22) ∧ Below wz.heap.size wz w' := by
  rw [← hc]
  exact check_any T' _ _ _ _ _ _ wz h.inst
theorem fin_n {T' : IData} {wz : World} {k : Nat} {E1 E2 E3 : Option Addr} {e1 e2 e3 : Nat} (h : OwnI wz k 52 56 T' E1 e1 E2 e2 E3 e3) (hc : nR T' = 0) : Calls Tryd.prog 11 #[.agg #[.int .i64 T'.kind, .int .i64 T'.cap, .slice E1 T'.items.length e1, .slice E2 T'.cost.length e2, .int .i64 T'.size, .slice E3 T'.sets.length e3]] wz fun e w' => e = .returned (.int .i64 0) ∧ Below wz.heap.size wz w' := by
  rw [← hc]
  exact n_any T' _ _ _ _ _ _ wz h.inst
/-- The two last calls, whenever they come. -/
theorem fin_kf {T' : IData} {wz : World} {k : Nat} {E1 E2 E3 : Option Addr} {e1 e2 e3 : Nat} (h : OwnI wz k 52 56 T' E1 e1 E2 e2 E3 e3) (hc : checkR T' = 22 ∧ nR T' = 0) :
    (∀ w' (hb : Below wz.heap.size wz w'), Calls Tryd.prog 9 #[.agg #[.int .i64 T'.kind, .int .i64 T'.cap, .slice E1 T'.items.length e1, .slice E2 T'.cost.length e2, .int .i64 T'.size, .slice E3 T'.sets.length e3]] w' fun e w'' => e = .returned (.int .i64 22) ∧ Below w'.heap.size w' w'') ∧ (∀ w' (hb : Below wz.heap.size wz w'), Calls Tryd.prog 11 #[.agg #[.int .i64 T'.kind, .int .i64 T'.cap, .slice E1 T'.items.length e1, .slice E2 T'.cost.length e2, .int .i64 T'.size, .slice E3 T'.sets.length e3]] w' fun e w'' => e = .returned (.int .i64 0) ∧ Below w'.heap.size w' w'') :=
  ⟨fun w' hb => fin_ck (h.below hb) hc.1, fun w' hb => fin_n (h.below hb) hc.2⟩
theorem tame_ck {T' : IData} {wz : World} {k : Nat} {E1 E2 E3 : Option Addr} {e1 e2 e3 : Nat} (h : OwnI wz k 52 56 T' E1 e1 E2 e2 E3 e3) (hc : TameD T' 9) : Calls Tryd.prog 9 #[.agg #[.int .i64 T'.kind, .int .i64 T'.cap, .slice E1 T'.items.length e1, .slice E2 T'.cost.length e2, .int .i64 T'.size, .slice E3 T'.sets.length e3]] wz fun e w' => e = .returned (.int .i64 0) ∧ Below wz.heap.size wz w' := by
  rw [← check_tame hc (by omega)]
  exact check_any T' _ _ _ _ _ _ wz h.inst
theorem insts_t (T : IData) (A1 A2 A3 : Option Addr) (c1 c2 c3 : Nat) (w : World) {B : Nat} (hI : InstAt w B T A1 c1 A2 c2 A3 c3) (h : TameD T 9) : Calls Tryd.prog 8 #[.agg #[.int .i64 T.kind, .int .i64 T.cap, .slice A1 T.items.length c1, .slice A2 T.cost.length c2, .int .i64 T.size, .slice A3 T.sets.length c3]] w fun e w' => InsPostC w T e w' := by
  have := insts_c T A1 A2 A3 c1 c2 c3 w hI
  rw [cut_tame h] at this
  exact this
theorem idx_of {P : Int} {n : Nat} (hP : 0 ≤ P) (hn : 0 < n) : ∃ i : Nat, Int.tmod P (n : Int) = (i : Int) ∧ i < n := by
  have h1 := Int.tmod_nonneg (n : Int) hP
  have h2 := Int.tmod_lt_of_pos P (show (0 : Int) < (n : Int) by omega)
  exact ⟨(Int.tmod P (n : Int)).toNat, by omega, by omega⟩
set_option maxHeartbeats 12800000 in
theorem InstTame_walk (I : IData) (x0 y0 : Int) (A1 A2 A3 : Option Addr) (a1 a2 a3 : Nat) (w : World) (hw : NamesW w) (hI : InstAt w w.heap.size I A1 a1 A2 a2 A3 a3) (hx : InI x0) (hy : InI y0) :
    Calls Tryd.prog 6 #[.agg #[.int .i64 I.kind, .int .i64 I.cap, .slice A1 I.items.length a1, .slice A2 I.cost.length a2, .int .i64 I.size, .slice A3 I.sets.length a3], .agg #[.int .i64 x0, .int .i64 y0]] w fun e w' => e = .returned (.bool true) ∧ Below w.heap.size w w' := by
  have HN := Lib.hid hw
  have H1 := Lib.hid (fun w' (hb : Below w.heap.size w w') => tame9 I A1 A2 A3 a1 a2 a3 w' (hI.below hb))
  obtain ⟨P, hP⟩ : ∃ P, (if (0 : Int) < x0 then x0 else 0) = P := ⟨_, rfl⟩
  obtain ⟨Q, hQ⟩ : ∃ Q, (if (0 : Int) < y0 then y0 else 0) = Q := ⟨_, rfl⟩
  have P0 : 0 ≤ P := by split at hP <;> omega
  have Q0 : 0 ≤ Q := by split at hQ <;> omega
  have P1 : P ≤ 9223372036854775807 := by have := hx.2; split at hP <;> omega
  have Q1 : Q ≤ 9223372036854775807 := by have := hy.2; split at hQ <;> omega
  clear hw hI hx hy
  go_enter Tryd.func6, Tryd.ntmps6
  go_wp2_with fail
  have bl0 : Below w.heap.size w ((w.alloc (.cells #[.int .i64 I.kind, .int .i64 I.cap, .slice A1 I.items.length a1, .slice A2 I.cost.length a2, .int .i64 I.size, .slice A3 I.sets.length a3] 26)).alloc (.cells #[.int .i64 x0, .int .i64 y0] 57)) := bl_alloc (bl_alloc (Below.refl _ _) _) _
  (with_reducible refine (H1.out _ bl0).mono ?_); rintro e u1 ⟨T, D1, d1, D2, d2, D3, d3, rfl, HT, HO, hb1⟩
  have Bn1 : Blk u1 (w.heap.size + 1) 57 #[.int .i64 x0, .int .i64 y0] := (Blk.new' (by simp) _ _).below hb1
  have bl1 := bl_step bl0 hb1
  have hsz1 : w.heap.size ≤ u1.heap.size := bl1.size
  clear H1 bl0 hb1
  go_wp2_with fail
  have nb : Below u1.heap.size u1 (u1.alloc (.cells #[.int .i64 T.kind, .int .i64 T.cap, .slice D1 T.items.length d1, .slice D2 T.cost.length d2, .int .i64 T.size, .slice D3 T.sets.length d3] 26)) := bl_alloc (Below.refl _ _) _
  (with_reducible refine (insts_t T D1 D2 D3 d1 d2 d3 _ (HO.below nb).inst HT).mono ?_); rintro e u2 ⟨E1, e1, E2, e2, E3, e3, F1, f1, F2, f2, F3, f3, rfl, ⟨oa, ob⟩, hb2⟩
  have bl2 := bl_step (bl_step bl1 nb) hb2
  have Bn2 := (Bn1.below nb).below hb2
  replace oa := Lib.hid oa
  clear ob HO nb hb2 Bn1 bl1
  replace HT := Lib.hid HT
  go_wp2_with fail
  have nc : Below u2.heap.size u2 ((u2.alloc (.cells #[.int .i64 T.kind, .int .i64 T.cap, .slice E1 T.items.length e1, .slice E2 T.cost.length e2, .int .i64 T.size, .slice E3 T.sets.length e3] 33)).alloc (.cells #[.int .i64 T.kind, .int .i64 T.cap, .slice F1 T.items.length f1, .slice F2 T.cost.length f2, .int .i64 T.size, .slice F3 T.sets.length f3] 36)) := bl_alloc (bl_alloc (Below.refl _ _) _) _
  have Ba2 : Blk ((u2.alloc (.cells #[.int .i64 T.kind, .int .i64 T.cap, .slice E1 T.items.length e1, .slice E2 T.cost.length e2, .int .i64 T.size, .slice E3 T.sets.length e3] 33)).alloc (.cells #[.int .i64 T.kind, .int .i64 T.cap, .slice F1 T.items.length f1, .slice F2 T.cost.length f2, .int .i64 T.size, .slice F3 T.sets.length f3] 36)) u2.heap.size 33 #[.int .i64 T.kind, .int .i64 T.cap, .slice E1 T.items.length e1, .slice E2 T.cost.length e2, .int .i64 T.size, .slice E3 T.sets.length e3] := (Blk.new _ _ _).alloc _
  (with_reducible refine (wakes_any _ (HN.out.below (bl_step bl2 nc))).mono ?_); rintro e u3 ⟨rfl, hb3⟩
  have bl3 := bl_step (bl_step bl2 nc) hb3
  have Ba3 := Ba2.below hb3
  have Bn3 := (Bn2.below nc).below hb3
  have OA3 := Lib.hid ((oa.out.below nc).below hb3)
  have lga : w.heap.size ≤ u2.heap.size := bl2.size
  generalize u2.heap.size = ga at Ba3 lga ⊢
  clear nc Ba2 bl2 Bn2 oa hb3 HN
  have a3_z : ga < u3.heap.size := Ba3.lt
  have a3_c0 : u3.cell? ⟨ga, 0, none⟩ = some (.int .i64 T.kind) := (Ba3.cell 0).trans rfl
  have a3_f0 := Ba3.frozen 0
  have a3_c1 : u3.cell? ⟨ga, 1, none⟩ = some (.int .i64 T.cap) := (Ba3.cell 1).trans rfl
  have a3_f1 := Ba3.frozen 1
  have a3_c2 : u3.cell? ⟨ga, 2, none⟩ = some (.slice E1 T.items.length e1) := (Ba3.cell 2).trans rfl
  have a3_f2 := Ba3.frozen 2
  have a3_c3 : u3.cell? ⟨ga, 3, none⟩ = some (.slice E2 T.cost.length e2) := (Ba3.cell 3).trans rfl
  have a3_f3 := Ba3.frozen 3
  have a3_c4 : u3.cell? ⟨ga, 4, none⟩ = some (.int .i64 T.size) := (Ba3.cell 4).trans rfl
  have a3_f4 := Ba3.frozen 4
  have a3_c5 : u3.cell? ⟨ga, 5, none⟩ = some (.slice E3 T.sets.length e3) := (Ba3.cell 5).trans rfl
  have a3_f5 := Ba3.frozen 5
  go_wp2_with fail
  (with_reducible refine (tame_ck OA3.out HT.out).mono ?_); rintro e u4 ⟨rfl, hb4⟩
  have bl4 := bl_step bl3 hb4
  have Ba4 := Ba3.below hb4
  have Bn4 := Bn3.below hb4
  have OA4 := Lib.hid (OA3.out.below hb4)
  clear bl3 Ba3 Bn3 OA3 hb4 a3_z a3_c0 a3_f0 a3_c1 a3_f1 a3_c2 a3_f2 a3_c3 a3_f3 a3_c4 a3_f4 a3_c5 a3_f5
  have n4_z : w.heap.size + 1 < u4.heap.size := Bn4.lt
  have n4_c0 : u4.cell? ⟨w.heap.size + 1, 0, none⟩ = some (.int .i64 x0) := (Bn4.cell 0).trans rfl
  have n4_f0 := Bn4.frozen 0
  have n4_c1 : u4.cell? ⟨w.heap.size + 1, 1, none⟩ = some (.int .i64 y0) := (Bn4.cell 1).trans rfl
  have n4_f1 := Bn4.frozen 1
  go_wp2_with fail
  refine wp_region_pre (S := fun w' => w'.cell? ⟨w.heap.size + 1, 0, none⟩ = some (.int .i64 x0) ∧ w'.cell? ⟨w.heap.size + 1, 1, none⟩ = some (.int .i64 y0)) 7 (by kernel_rfl) (by kernel_rfl) ?_ (fun hH0 => ?_)
  · exact ⟨(Bn4.drew.cell 0).trans rfl, (Bn4.drew.cell 1).trans rfl⟩
  refine PreG.take (i := 0) (v := ?vv65) rfl (by kernel_rfl) (by kernel_rfl) (fun _ _ _ h => h) (Or.inl ⟨by rfl, ?hy65⟩) (by assumption) ?rest65
  case hy65 => intro w hSw; (try dsimp only at hSw); first | (go_simp; done) | (go_simp; with_reducible rfl)
  try simp only [Act.put, List.getElem_toArray, List.getElem_cons_zero, List.getElem_cons_succ, List.setIfInBounds_toArray, List.set_cons_zero, List.set_cons_succ]
  refine PreG.take (i := 1) (v := ?vv66) rfl (by kernel_rfl) (by kernel_rfl) (fun _ _ _ h => h) (Or.inl ⟨by rfl, ?hy66⟩) (by assumption) ?rest66
  case hy66 => intro w hSw; (try dsimp only at hSw); first | (go_simp; done) | (go_simp; with_reducible rfl)
  try simp only [Act.put, List.getElem_toArray, List.getElem_cons_zero, List.getElem_cons_succ, List.setIfInBounds_toArray, List.set_cons_zero, List.set_cons_succ]
  refine PreG.take (i := 2) (v := ?vv67) rfl (by kernel_rfl) (by kernel_rfl) (fun _ _ _ h => h) (Or.inl ⟨by rfl, ?hy67⟩) (by assumption) ?rest67
  case hy67 => intro w hSw; (try dsimp only at hSw); first | (go_simp; done) | (go_simp; with_reducible rfl)
  try simp only [Act.put, List.getElem_toArray, List.getElem_cons_zero, List.getElem_cons_succ, List.setIfInBounds_toArray, List.set_cons_zero, List.set_cons_succ]
  refine PreG.take (i := 3) (v := ?vv68) rfl (by kernel_rfl) (by kernel_rfl) (fun _ _ _ h => h) (Or.inl ⟨by rfl, ?hy68⟩) (by assumption) ?rest68
  case hy68 => intro w hSw; (try dsimp only at hSw); first | (go_simp; done) | (go_simp; with_reducible rfl)
  try simp only [Act.put, List.getElem_toArray, List.getElem_cons_zero, List.getElem_cons_succ, List.setIfInBounds_toArray, List.set_cons_zero, List.set_cons_succ]
  refine PreG.take (i := 4) (v := ?vv69) rfl (by kernel_rfl) (by kernel_rfl) (fun _ _ _ h => h) (Or.inl ⟨by rfl, ?hy69⟩) (by assumption) ?rest69
  case hy69 => intro w hSw; (try dsimp only at hSw); first | (go_simp; done) | (go_simp; with_reducible rfl)
  try simp only [Act.put, List.getElem_toArray, List.getElem_cons_zero, List.getElem_cons_succ, List.setIfInBounds_toArray, List.set_cons_zero, List.set_cons_succ]
  refine PreG.take (i := 5) (v := ?vv70) rfl (by kernel_rfl) (by kernel_rfl) (fun _ _ _ h => h) (Or.inl ⟨by rfl, ?hy70⟩) (by assumption) ?rest70
  case hy70 => intro w hSw; (try dsimp only at hSw); first | (go_simp; done) | (go_simp; with_reducible rfl)
  try simp only [Act.put, List.getElem_toArray, List.getElem_cons_zero, List.getElem_cons_succ, List.setIfInBounds_toArray, List.set_cons_zero, List.set_cons_succ]
  refine PreG.take (i := 6) (v := ?vv71) rfl (by kernel_rfl) (by kernel_rfl) (fun _ _ _ h => h) (Or.inl ⟨by rfl, ?hy71⟩) (by assumption) ?rest71
  case hy71 => intro w hSw; (try dsimp only at hSw); first | (go_simp; done) | (go_simp; with_reducible rfl)
  try simp only [Act.put, List.getElem_toArray, List.getElem_cons_zero, List.getElem_cons_succ, List.setIfInBounds_toArray, List.set_cons_zero, List.set_cons_succ]
  refine PreG.done (by kernel_rfl) ?_
  simp only [List.drop_succ_cons, List.drop_zero]
  clear hH0
  have Ba5 := Ba4.drew
  have bl5 := bl_drew bl4
  have OA5 := Lib.hid (OA4.out.below (bl_drew (Below.refl _ _)))
  clear Ba4 Bn4 bl4 OA4 n4_z n4_c0 n4_f0 n4_c1 n4_f1
  generalize u4.drew = v at Ba5 bl5 OA5 ⊢
  have a_z : ga < v.heap.size := Ba5.lt
  have a_c0 : v.cell? ⟨ga, 0, none⟩ = some (.int .i64 T.kind) := (Ba5.cell 0).trans rfl
  have a_f0 := Ba5.frozen 0
  have a_c1 : v.cell? ⟨ga, 1, none⟩ = some (.int .i64 T.cap) := (Ba5.cell 1).trans rfl
  have a_f1 := Ba5.frozen 1
  have a_c2 : v.cell? ⟨ga, 2, none⟩ = some (.slice E1 T.items.length e1) := (Ba5.cell 2).trans rfl
  have a_f2 := Ba5.frozen 2
  have a_c3 : v.cell? ⟨ga, 3, none⟩ = some (.slice E2 T.cost.length e2) := (Ba5.cell 3).trans rfl
  have a_f3 := Ba5.frozen 3
  have a_c4 : v.cell? ⟨ga, 4, none⟩ = some (.int .i64 T.size) := (Ba5.cell 4).trans rfl
  have a_f4 := Ba5.frozen 4
  have a_c5 : v.cell? ⟨ga, 5, none⟩ = some (.slice E3 T.sets.length e3) := (Ba5.cell 5).trans rfl
  have a_f5 := Ba5.frozen 5
  obtain ⟨k5, hk5, OK5⟩ : ∃ k, w.heap.size ≤ k ∧ Hid (OwnI v k 52 56 T E1 e1 E2 e2 E3 e3) := ⟨_, by simp; omega, OA5⟩
  clear OA5
  obtain ⟨le1, le2, le3⟩ := tame_len HT.out
  by_cases k0 : T.kind = 0
  · have kb : (T.kind == 0) = true := by simp; exact k0
    replace k0 := Lib.hid k0
    by_cases hn : 0 < T.items.length
    · obtain ⟨i, hi, hil⟩ := idx_of P0 hn
      have hnI : (0 : Int) < (T.items.length : Int) := by omega
      have hnz : ¬ (T.items.length : Int) = 0 := by omega
      have hnil : ¬ T.items = [] := fun e => by rw [e] at hn; simp at hn
      have wi : IntKind.i64.wrap (i : Int) = (i : Int) := by rw [IntKind.wrap_i64]; omega
      have i0 : (0 : Int) ≤ (i : Int) := by omega
      have i1 : (i : Int) < (T.items.length : Int) := by omega
      have hq : T.items[i]? = some T.items[i] := List.getElem?_eq_getElem hil
      generalize T.items[i] = q at hq
      obtain ⟨g, rfl, hgg, _, hcell, hfr⟩ := own_two OK5.out.items hn Ba5 (by decide)
      obtain ⟨c1, c2⟩ := flat2_get (T.items.map pairI) i (pairI q) (by rw [List.getElem?_map, hq]; rfl)
      have hc1 := hcell _ _ c1
      have hc2 := hcell _ _ c2
      have hf2 := hfr (i * 2 + 1)
      simp only [pairI] at hc1 hc2
      have lg : w.heap.size ≤ g := by have := own_base OK5.out.items g rfl; omega
      clear hcell hfr c1 c2
      have HQ := Lib.hid hq
      clear hq
      have HG := Lib.hid hgg
      clear hgg
      go_wp2_with fail
      refine wp_region_pre (S := fun w' => w'.cell? ⟨ga, 2, none⟩ = some (.slice (some ⟨g, 0, none⟩) T.items.length e1)) 7 (by kernel_rfl) (by kernel_rfl) ?_ (fun hH0 => ?_)
      · exact (Ba5.drew.cell 2).trans rfl
      refine PreG.take (i := 0) (v := ?vv37) rfl (by kernel_rfl) (by kernel_rfl) (fun _ _ _ h => h) (Or.inl ⟨by rfl, ?hy37⟩) (by assumption) ?rest37
      case hy37 => intro w hSw; (try dsimp only at hSw); first | (go_simp; done) | (go_simp; with_reducible rfl)
      try simp only [Act.put, List.getElem_toArray, List.getElem_cons_zero, List.getElem_cons_succ, List.setIfInBounds_toArray, List.set_cons_zero, List.set_cons_succ]
      refine PreG.take (i := 1) (v := ?vv38) rfl (by kernel_rfl) (by kernel_rfl) (fun _ _ _ h => h) (Or.inl ⟨by rfl, ?hy38⟩) (by assumption) ?rest38
      case hy38 => intro w hSw; (try dsimp only at hSw); first | (go_simp; done) | (go_simp; with_reducible rfl)
      try simp only [Act.put, List.getElem_toArray, List.getElem_cons_zero, List.getElem_cons_succ, List.setIfInBounds_toArray, List.set_cons_zero, List.set_cons_succ]
      refine PreG.take (i := 2) (v := ?vv39) rfl (by kernel_rfl) (by kernel_rfl) (fun _ _ _ h => h) (Or.inl ⟨by rfl, ?hy39⟩) (by assumption) ?rest39
      case hy39 => intro w hSw; (try dsimp only at hSw); first | (go_simp; done) | (go_simp; with_reducible rfl)
      try simp only [Act.put, List.getElem_toArray, List.getElem_cons_zero, List.getElem_cons_succ, List.setIfInBounds_toArray, List.set_cons_zero, List.set_cons_succ]
      refine PreG.take (i := 3) (v := ?vv40) rfl (by kernel_rfl) (by kernel_rfl) (fun _ _ _ h => h) (Or.inl ⟨by rfl, ?hy40⟩) (by assumption) ?rest40
      case hy40 => intro w hSw; (try dsimp only at hSw); first | (go_simp; done) | (go_simp; with_reducible rfl)
      try simp only [Act.put, List.getElem_toArray, List.getElem_cons_zero, List.getElem_cons_succ, List.setIfInBounds_toArray, List.set_cons_zero, List.set_cons_succ]
      refine PreG.take (i := 4) (v := ?vv41) rfl (by kernel_rfl) (by kernel_rfl) (fun _ _ _ h => h) (Or.inl ⟨by rfl, ?hy41⟩) (by assumption) ?rest41
      case hy41 => intro w hSw; (try dsimp only at hSw); first | (go_simp; done) | (go_simp; with_reducible rfl)
      try simp only [Act.put, List.getElem_toArray, List.getElem_cons_zero, List.getElem_cons_succ, List.setIfInBounds_toArray, List.set_cons_zero, List.set_cons_succ]
      refine PreG.take (i := 5) (v := ?vv42) rfl (by kernel_rfl) (by kernel_rfl) (fun _ _ _ h => h) (Or.inl ⟨by rfl, ?hy42⟩) (by assumption) ?rest42
      case hy42 => intro w hSw; (try dsimp only at hSw); first | (go_simp; done) | (go_simp; with_reducible rfl)
      try simp only [Act.put, List.getElem_toArray, List.getElem_cons_zero, List.getElem_cons_succ, List.setIfInBounds_toArray, List.set_cons_zero, List.set_cons_succ]
      refine PreG.take (i := 6) (v := ?vv43) rfl (by kernel_rfl) (by kernel_rfl) (fun _ _ _ h => h) (Or.inl ⟨by rfl, ?hy43⟩) (by assumption) ?rest43
      case hy43 => intro w hSw; (try dsimp only at hSw); first | (go_simp; done) | (go_simp; with_reducible rfl)
      try simp only [Act.put, List.getElem_toArray, List.getElem_cons_zero, List.getElem_cons_succ, List.setIfInBounds_toArray, List.set_cons_zero, List.set_cons_succ]
      refine PreG.done (by kernel_rfl) ?_
      simp only [List.drop_succ_cons, List.drop_zero]
      clear hH0
      have hc1 : v.drew.cell? ⟨g, i * 2, none⟩ = some (.int .i64 q.1) := hc1
      have hc2 : v.drew.cell? ⟨g, i * 2 + 1, none⟩ = some (.int .i64 q.2) := hc2
      have hf2 : v.drew.frozen? ⟨g, i * 2 + 1, none⟩ = false := hf2
      have BW : Blk ((v.setCell ⟨g, i * 2 + 1, none⟩ (.int .i64 2147483649)).drew) ga 33 #[.int .i64 T.kind, .int .i64 T.cap, .slice (some ⟨g, 0, none⟩) T.items.length e1, .slice E2 T.cost.length e2, .int .i64 T.size, .slice E3 T.sets.length e3] := (Ba5.far (p := ⟨g, i * 2 + 1, none⟩) HG.out _).drew
      have KF := fin_kf (wz := (v.setCell ⟨g, i * 2 + 1, none⟩ (.int .i64 2147483649)).drew) ((OK5.out.putItem HQ.out).below (bl_drew (Below.refl _ _))) (far_items HT.out k0.out hil q.1)
      simp only [List.length_set] at KF
      replace KF := Lib.hid KF
      have blf : Below w.heap.size w ((v.setCell ⟨g, i * 2 + 1, none⟩ (.int .i64 2147483649)).drew) := bl_drew (bl_set bl5 (p := ⟨g, i * 2 + 1, none⟩) lg _)
      have b_z : ga < ((v.setCell ⟨g, i * 2 + 1, none⟩ (.int .i64 2147483649)).drew).heap.size := BW.lt
      have b_c0 : ((v.setCell ⟨g, i * 2 + 1, none⟩ (.int .i64 2147483649)).drew).cell? ⟨ga, 0, none⟩ = some (.int .i64 T.kind) := (BW.cell 0).trans rfl
      have b_f0 := BW.frozen 0
      have b_c1 : ((v.setCell ⟨g, i * 2 + 1, none⟩ (.int .i64 2147483649)).drew).cell? ⟨ga, 1, none⟩ = some (.int .i64 T.cap) := (BW.cell 1).trans rfl
      have b_f1 := BW.frozen 1
      have b_c2 : ((v.setCell ⟨g, i * 2 + 1, none⟩ (.int .i64 2147483649)).drew).cell? ⟨ga, 2, none⟩ = some (.slice (some ⟨g, 0, none⟩) T.items.length e1) := (BW.cell 2).trans rfl
      have b_f2 := BW.frozen 2
      have b_c3 : ((v.setCell ⟨g, i * 2 + 1, none⟩ (.int .i64 2147483649)).drew).cell? ⟨ga, 3, none⟩ = some (.slice E2 T.cost.length e2) := (BW.cell 3).trans rfl
      have b_f3 := BW.frozen 3
      have b_c4 : ((v.setCell ⟨g, i * 2 + 1, none⟩ (.int .i64 2147483649)).drew).cell? ⟨ga, 4, none⟩ = some (.int .i64 T.size) := (BW.cell 4).trans rfl
      have b_f4 := BW.frozen 4
      have b_c5 : ((v.setCell ⟨g, i * 2 + 1, none⟩ (.int .i64 2147483649)).drew).cell? ⟨ga, 5, none⟩ = some (.slice E3 T.sets.length e3) := (BW.cell 5).trans rfl
      have b_f5 := BW.frozen 5
      clear a_z a_c0 a_f0 a_c1 a_f1 a_c2 a_f2 a_c3 a_f3 a_c4 a_f4 a_c5 a_f5
      go_wp2_with fail
      (with_reducible refine (KF.out.1 _ (Below.refl _ _)).mono ?_); rintro e s1 ⟨rfl, h1⟩
      have Bg := BW.below h1
      clear b_z b_c0 b_f0 b_c1 b_f1 b_c2 b_f2 b_c3 b_f3 b_c4 b_f4 b_c5 b_f5
      have g_z : ga < s1.heap.size := Bg.lt
      have g_c0 : s1.cell? ⟨ga, 0, none⟩ = some (.int .i64 T.kind) := (Bg.cell 0).trans rfl
      have g_f0 := Bg.frozen 0
      have g_c1 : s1.cell? ⟨ga, 1, none⟩ = some (.int .i64 T.cap) := (Bg.cell 1).trans rfl
      have g_f1 := Bg.frozen 1
      have g_c2 : s1.cell? ⟨ga, 2, none⟩ = some (.slice (some ⟨g, 0, none⟩) T.items.length e1) := (Bg.cell 2).trans rfl
      have g_f2 := Bg.frozen 2
      have g_c3 : s1.cell? ⟨ga, 3, none⟩ = some (.slice E2 T.cost.length e2) := (Bg.cell 3).trans rfl
      have g_f3 := Bg.frozen 3
      have g_c4 : s1.cell? ⟨ga, 4, none⟩ = some (.int .i64 T.size) := (Bg.cell 4).trans rfl
      have g_f4 := Bg.frozen 4
      have g_c5 : s1.cell? ⟨ga, 5, none⟩ = some (.slice E3 T.sets.length e3) := (Bg.cell 5).trans rfl
      have g_f5 := Bg.frozen 5
      go_wp2_with fail
      (with_reducible refine (KF.out.2 _ h1).mono ?_); rintro e s2 ⟨rfl, h2⟩
      go_wp2
      go_ret
      exact ⟨rfl, bl_step (bl_step blf h1) h2⟩
    · have hnI : ¬ (0 : Int) < (T.items.length : Int) := by omega
      have BW : Blk (v.setCell ⟨ga, 1, none⟩ (.int .i64 2147483649)) ga 33 #[.int .i64 T.kind, .int .i64 2147483649, .slice E1 T.items.length e1, .slice E2 T.cost.length e2, .int .i64 T.size, .slice E3 T.sets.length e3] := Ba5.put 1 _ rfl
      have KF := fin_kf (wz := v.setCell ⟨ga, 1, none⟩ (.int .i64 2147483649)) ((OK5.out.sepBox (j := 1) Ba5 (.int .i64 2147483649)).capBig) (far_cap HT.out k0.out)
      simp only [List.length_set] at KF
      replace KF := Lib.hid KF
      have blf : Below w.heap.size w (v.setCell ⟨ga, 1, none⟩ (.int .i64 2147483649)) := bl_set bl5 (p := ⟨ga, 1, none⟩) lga _
      have b_z : ga < (v.setCell ⟨ga, 1, none⟩ (.int .i64 2147483649)).heap.size := BW.lt
      have b_c0 : (v.setCell ⟨ga, 1, none⟩ (.int .i64 2147483649)).cell? ⟨ga, 0, none⟩ = some (.int .i64 T.kind) := (BW.cell 0).trans rfl
      have b_f0 := BW.frozen 0
      have b_c1 : (v.setCell ⟨ga, 1, none⟩ (.int .i64 2147483649)).cell? ⟨ga, 1, none⟩ = some (.int .i64 2147483649) := (BW.cell 1).trans rfl
      have b_f1 := BW.frozen 1
      have b_c2 : (v.setCell ⟨ga, 1, none⟩ (.int .i64 2147483649)).cell? ⟨ga, 2, none⟩ = some (.slice E1 T.items.length e1) := (BW.cell 2).trans rfl
      have b_f2 := BW.frozen 2
      have b_c3 : (v.setCell ⟨ga, 1, none⟩ (.int .i64 2147483649)).cell? ⟨ga, 3, none⟩ = some (.slice E2 T.cost.length e2) := (BW.cell 3).trans rfl
      have b_f3 := BW.frozen 3
      have b_c4 : (v.setCell ⟨ga, 1, none⟩ (.int .i64 2147483649)).cell? ⟨ga, 4, none⟩ = some (.int .i64 T.size) := (BW.cell 4).trans rfl
      have b_f4 := BW.frozen 4
      have b_c5 : (v.setCell ⟨ga, 1, none⟩ (.int .i64 2147483649)).cell? ⟨ga, 5, none⟩ = some (.slice E3 T.sets.length e3) := (BW.cell 5).trans rfl
      have b_f5 := BW.frozen 5
      go_wp2_with fail
      (with_reducible refine (KF.out.1 _ (Below.refl _ _)).mono ?_); rintro e s1 ⟨rfl, h1⟩
      have Bg := BW.below h1
      clear b_z b_c0 b_f0 b_c1 b_f1 b_c2 b_f2 b_c3 b_f3 b_c4 b_f4 b_c5 b_f5
      have g_z : ga < s1.heap.size := Bg.lt
      have g_c0 : s1.cell? ⟨ga, 0, none⟩ = some (.int .i64 T.kind) := (Bg.cell 0).trans rfl
      have g_f0 := Bg.frozen 0
      have g_c1 : s1.cell? ⟨ga, 1, none⟩ = some (.int .i64 2147483649) := (Bg.cell 1).trans rfl
      have g_f1 := Bg.frozen 1
      have g_c2 : s1.cell? ⟨ga, 2, none⟩ = some (.slice E1 T.items.length e1) := (Bg.cell 2).trans rfl
      have g_f2 := Bg.frozen 2
      have g_c3 : s1.cell? ⟨ga, 3, none⟩ = some (.slice E2 T.cost.length e2) := (Bg.cell 3).trans rfl
      have g_f3 := Bg.frozen 3
      have g_c4 : s1.cell? ⟨ga, 4, none⟩ = some (.int .i64 T.size) := (Bg.cell 4).trans rfl
      have g_f4 := Bg.frozen 4
      have g_c5 : s1.cell? ⟨ga, 5, none⟩ = some (.slice E3 T.sets.length e3) := (Bg.cell 5).trans rfl
      have g_f5 := Bg.frozen 5
      go_wp2_with fail
      (with_reducible refine (KF.out.2 _ h1).mono ?_); rintro e s2 ⟨rfl, h2⟩
      go_wp2
      go_ret
      exact ⟨rfl, bl_step (bl_step blf h1) h2⟩
  · have kb : (T.kind == 0) = false := by simp; exact k0
    by_cases k3 : T.kind = 3
    · have kb3 : (T.kind == 3) = true := by simp; exact k3
      replace k3 := Lib.hid k3
      clear k0
      by_cases hn : 0 < T.sets.length
      · obtain ⟨i, hi, hil⟩ := idx_of P0 hn
        have hnI : (0 : Int) < (T.sets.length : Int) := by omega
        have hnz : ¬ (T.sets.length : Int) = 0 := by omega
        have hnil : ¬ T.sets = [] := fun e => by rw [e] at hn; simp at hn
        have wi : IntKind.i64.wrap (i : Int) = (i : Int) := by rw [IntKind.wrap_i64]; omega
        have i0 : (0 : Int) ≤ (i : Int) := by omega
        have i1 : (i : Int) < (T.sets.length : Int) := by omega
        have hq : T.sets[i]? = some T.sets[i] := List.getElem?_eq_getElem hil
        generalize T.sets[i] = q at hq
        obtain ⟨us, ha, hbo, hc⟩ := OK5.out.sets
        obtain ⟨g, rfl, hgg, _, hcell, hfr⟩ := own_two hbo hn Ba5 (by decide)
        have hu : us[i]? = some (us[i]'(by omega)) := List.getElem?_eq_getElem (by omega)
        obtain ⟨c1, c2⟩ := flat2_get us i _ hu
        have hc1 := hcell _ _ c1
        rw [(hc i q _ hq hu).1] at hc1
        have hf2 := hfr (i * 2)
        have lg : w.heap.size ≤ g := by have := own_base hbo g rfl; omega
        clear hcell hfr c1 c2 hc ha hbo hu
        have HQ := Lib.hid hq
        clear hq
        have HG := Lib.hid hgg
        clear hgg
        go_wp2_with fail
        refine wp_region_pre (S := fun w' => w'.cell? ⟨ga, 5, none⟩ = some (.slice (some ⟨g, 0, none⟩) T.sets.length e3)) 7 (by kernel_rfl) (by kernel_rfl) ?_ (fun hH0 => ?_)
        · exact (Ba5.drew.cell 5).trans rfl
        refine PreG.take (i := 0) (v := ?vv44) rfl (by kernel_rfl) (by kernel_rfl) (fun _ _ _ h => h) (Or.inl ⟨by rfl, ?hy44⟩) (by assumption) ?rest44
        case hy44 => intro w hSw; (try dsimp only at hSw); first | (go_simp; done) | (go_simp; with_reducible rfl)
        try simp only [Act.put, List.getElem_toArray, List.getElem_cons_zero, List.getElem_cons_succ, List.setIfInBounds_toArray, List.set_cons_zero, List.set_cons_succ]
        refine PreG.take (i := 1) (v := ?vv45) rfl (by kernel_rfl) (by kernel_rfl) (fun _ _ _ h => h) (Or.inl ⟨by rfl, ?hy45⟩) (by assumption) ?rest45
        case hy45 => intro w hSw; (try dsimp only at hSw); first | (go_simp; done) | (go_simp; with_reducible rfl)
        try simp only [Act.put, List.getElem_toArray, List.getElem_cons_zero, List.getElem_cons_succ, List.setIfInBounds_toArray, List.set_cons_zero, List.set_cons_succ]
        refine PreG.take (i := 2) (v := ?vv46) rfl (by kernel_rfl) (by kernel_rfl) (fun _ _ _ h => h) (Or.inl ⟨by rfl, ?hy46⟩) (by assumption) ?rest46
        case hy46 => intro w hSw; (try dsimp only at hSw); first | (go_simp; done) | (go_simp; with_reducible rfl)
        try simp only [Act.put, List.getElem_toArray, List.getElem_cons_zero, List.getElem_cons_succ, List.setIfInBounds_toArray, List.set_cons_zero, List.set_cons_succ]
        refine PreG.take (i := 3) (v := ?vv47) rfl (by kernel_rfl) (by kernel_rfl) (fun _ _ _ h => h) (Or.inl ⟨by rfl, ?hy47⟩) (by assumption) ?rest47
        case hy47 => intro w hSw; (try dsimp only at hSw); first | (go_simp; done) | (go_simp; with_reducible rfl)
        try simp only [Act.put, List.getElem_toArray, List.getElem_cons_zero, List.getElem_cons_succ, List.setIfInBounds_toArray, List.set_cons_zero, List.set_cons_succ]
        refine PreG.take (i := 4) (v := ?vv48) rfl (by kernel_rfl) (by kernel_rfl) (fun _ _ _ h => h) (Or.inl ⟨by rfl, ?hy48⟩) (by assumption) ?rest48
        case hy48 => intro w hSw; (try dsimp only at hSw); first | (go_simp; done) | (go_simp; with_reducible rfl)
        try simp only [Act.put, List.getElem_toArray, List.getElem_cons_zero, List.getElem_cons_succ, List.setIfInBounds_toArray, List.set_cons_zero, List.set_cons_succ]
        refine PreG.take (i := 5) (v := ?vv49) rfl (by kernel_rfl) (by kernel_rfl) (fun _ _ _ h => h) (Or.inl ⟨by rfl, ?hy49⟩) (by assumption) ?rest49
        case hy49 => intro w hSw; (try dsimp only at hSw); first | (go_simp; done) | (go_simp; with_reducible rfl)
        try simp only [Act.put, List.getElem_toArray, List.getElem_cons_zero, List.getElem_cons_succ, List.setIfInBounds_toArray, List.set_cons_zero, List.set_cons_succ]
        refine PreG.take (i := 6) (v := ?vv50) rfl (by kernel_rfl) (by kernel_rfl) (fun _ _ _ h => h) (Or.inl ⟨by rfl, ?hy50⟩) (by assumption) ?rest50
        case hy50 => intro w hSw; (try dsimp only at hSw); first | (go_simp; done) | (go_simp; with_reducible rfl)
        try simp only [Act.put, List.getElem_toArray, List.getElem_cons_zero, List.getElem_cons_succ, List.setIfInBounds_toArray, List.set_cons_zero, List.set_cons_succ]
        refine PreG.done (by kernel_rfl) ?_
        simp only [List.drop_succ_cons, List.drop_zero]
        clear hH0
        have hc1 : v.drew.cell? ⟨g, i * 2, none⟩ = some (.int .i64 q.1) := hc1
        have hf2 : v.drew.frozen? ⟨g, i * 2, none⟩ = false := hf2
        have BW : Blk ((v.setCell ⟨g, i * 2, none⟩ (.int .i64 (-1))).drew) ga 33 #[.int .i64 T.kind, .int .i64 T.cap, .slice E1 T.items.length e1, .slice E2 T.cost.length e2, .int .i64 T.size, .slice (some ⟨g, 0, none⟩) T.sets.length e3] := (Ba5.far (p := ⟨g, i * 2, none⟩) HG.out _).drew
        have KF := fin_kf (wz := (v.setCell ⟨g, i * 2, none⟩ (.int .i64 (-1))).drew) ((OK5.out.putSet HQ.out).below (bl_drew (Below.refl _ _))) (far_sets HT.out k3.out HQ.out)
        simp only [List.length_set] at KF
        replace KF := Lib.hid KF
        have blf : Below w.heap.size w ((v.setCell ⟨g, i * 2, none⟩ (.int .i64 (-1))).drew) := bl_drew (bl_set bl5 (p := ⟨g, i * 2, none⟩) lg _)
        have b_z : ga < ((v.setCell ⟨g, i * 2, none⟩ (.int .i64 (-1))).drew).heap.size := BW.lt
        have b_c0 : ((v.setCell ⟨g, i * 2, none⟩ (.int .i64 (-1))).drew).cell? ⟨ga, 0, none⟩ = some (.int .i64 T.kind) := (BW.cell 0).trans rfl
        have b_f0 := BW.frozen 0
        have b_c1 : ((v.setCell ⟨g, i * 2, none⟩ (.int .i64 (-1))).drew).cell? ⟨ga, 1, none⟩ = some (.int .i64 T.cap) := (BW.cell 1).trans rfl
        have b_f1 := BW.frozen 1
        have b_c2 : ((v.setCell ⟨g, i * 2, none⟩ (.int .i64 (-1))).drew).cell? ⟨ga, 2, none⟩ = some (.slice E1 T.items.length e1) := (BW.cell 2).trans rfl
        have b_f2 := BW.frozen 2
        have b_c3 : ((v.setCell ⟨g, i * 2, none⟩ (.int .i64 (-1))).drew).cell? ⟨ga, 3, none⟩ = some (.slice E2 T.cost.length e2) := (BW.cell 3).trans rfl
        have b_f3 := BW.frozen 3
        have b_c4 : ((v.setCell ⟨g, i * 2, none⟩ (.int .i64 (-1))).drew).cell? ⟨ga, 4, none⟩ = some (.int .i64 T.size) := (BW.cell 4).trans rfl
        have b_f4 := BW.frozen 4
        have b_c5 : ((v.setCell ⟨g, i * 2, none⟩ (.int .i64 (-1))).drew).cell? ⟨ga, 5, none⟩ = some (.slice (some ⟨g, 0, none⟩) T.sets.length e3) := (BW.cell 5).trans rfl
        have b_f5 := BW.frozen 5
        clear a_z a_c0 a_f0 a_c1 a_f1 a_c2 a_f2 a_c3 a_f3 a_c4 a_f4 a_c5 a_f5
        go_wp2_with fail
        (with_reducible refine (KF.out.1 _ (Below.refl _ _)).mono ?_); rintro e s1 ⟨rfl, h1⟩
        have Bg := BW.below h1
        clear b_z b_c0 b_f0 b_c1 b_f1 b_c2 b_f2 b_c3 b_f3 b_c4 b_f4 b_c5 b_f5
        have g_z : ga < s1.heap.size := Bg.lt
        have g_c0 : s1.cell? ⟨ga, 0, none⟩ = some (.int .i64 T.kind) := (Bg.cell 0).trans rfl
        have g_f0 := Bg.frozen 0
        have g_c1 : s1.cell? ⟨ga, 1, none⟩ = some (.int .i64 T.cap) := (Bg.cell 1).trans rfl
        have g_f1 := Bg.frozen 1
        have g_c2 : s1.cell? ⟨ga, 2, none⟩ = some (.slice E1 T.items.length e1) := (Bg.cell 2).trans rfl
        have g_f2 := Bg.frozen 2
        have g_c3 : s1.cell? ⟨ga, 3, none⟩ = some (.slice E2 T.cost.length e2) := (Bg.cell 3).trans rfl
        have g_f3 := Bg.frozen 3
        have g_c4 : s1.cell? ⟨ga, 4, none⟩ = some (.int .i64 T.size) := (Bg.cell 4).trans rfl
        have g_f4 := Bg.frozen 4
        have g_c5 : s1.cell? ⟨ga, 5, none⟩ = some (.slice (some ⟨g, 0, none⟩) T.sets.length e3) := (Bg.cell 5).trans rfl
        have g_f5 := Bg.frozen 5
        go_wp2_with fail
        (with_reducible refine (KF.out.2 _ h1).mono ?_); rintro e s2 ⟨rfl, h2⟩
        go_wp2
        go_ret
        exact ⟨rfl, bl_step (bl_step blf h1) h2⟩
      · have hnI : ¬ (0 : Int) < (T.sets.length : Int) := by omega
        have BW : Blk (v.setCell ⟨ga, 4, none⟩ (.int .i64 4097)) ga 33 #[.int .i64 T.kind, .int .i64 T.cap, .slice E1 T.items.length e1, .slice E2 T.cost.length e2, .int .i64 4097, .slice E3 T.sets.length e3] := Ba5.put 4 _ rfl
        have KF := fin_kf (wz := v.setCell ⟨ga, 4, none⟩ (.int .i64 4097)) ((OK5.out.sepBox (j := 4) Ba5 (.int .i64 4097)).sizeBig) (far_size HT.out k3.out)
        simp only [List.length_set] at KF
        replace KF := Lib.hid KF
        have blf : Below w.heap.size w (v.setCell ⟨ga, 4, none⟩ (.int .i64 4097)) := bl_set bl5 (p := ⟨ga, 4, none⟩) lga _
        have b_z : ga < (v.setCell ⟨ga, 4, none⟩ (.int .i64 4097)).heap.size := BW.lt
        have b_c0 : (v.setCell ⟨ga, 4, none⟩ (.int .i64 4097)).cell? ⟨ga, 0, none⟩ = some (.int .i64 T.kind) := (BW.cell 0).trans rfl
        have b_f0 := BW.frozen 0
        have b_c1 : (v.setCell ⟨ga, 4, none⟩ (.int .i64 4097)).cell? ⟨ga, 1, none⟩ = some (.int .i64 T.cap) := (BW.cell 1).trans rfl
        have b_f1 := BW.frozen 1
        have b_c2 : (v.setCell ⟨ga, 4, none⟩ (.int .i64 4097)).cell? ⟨ga, 2, none⟩ = some (.slice E1 T.items.length e1) := (BW.cell 2).trans rfl
        have b_f2 := BW.frozen 2
        have b_c3 : (v.setCell ⟨ga, 4, none⟩ (.int .i64 4097)).cell? ⟨ga, 3, none⟩ = some (.slice E2 T.cost.length e2) := (BW.cell 3).trans rfl
        have b_f3 := BW.frozen 3
        have b_c4 : (v.setCell ⟨ga, 4, none⟩ (.int .i64 4097)).cell? ⟨ga, 4, none⟩ = some (.int .i64 4097) := (BW.cell 4).trans rfl
        have b_f4 := BW.frozen 4
        have b_c5 : (v.setCell ⟨ga, 4, none⟩ (.int .i64 4097)).cell? ⟨ga, 5, none⟩ = some (.slice E3 T.sets.length e3) := (BW.cell 5).trans rfl
        have b_f5 := BW.frozen 5
        go_wp2_with fail
        (with_reducible refine (KF.out.1 _ (Below.refl _ _)).mono ?_); rintro e s1 ⟨rfl, h1⟩
        have Bg := BW.below h1
        clear b_z b_c0 b_f0 b_c1 b_f1 b_c2 b_f2 b_c3 b_f3 b_c4 b_f4 b_c5 b_f5
        have g_z : ga < s1.heap.size := Bg.lt
        have g_c0 : s1.cell? ⟨ga, 0, none⟩ = some (.int .i64 T.kind) := (Bg.cell 0).trans rfl
        have g_f0 := Bg.frozen 0
        have g_c1 : s1.cell? ⟨ga, 1, none⟩ = some (.int .i64 T.cap) := (Bg.cell 1).trans rfl
        have g_f1 := Bg.frozen 1
        have g_c2 : s1.cell? ⟨ga, 2, none⟩ = some (.slice E1 T.items.length e1) := (Bg.cell 2).trans rfl
        have g_f2 := Bg.frozen 2
        have g_c3 : s1.cell? ⟨ga, 3, none⟩ = some (.slice E2 T.cost.length e2) := (Bg.cell 3).trans rfl
        have g_f3 := Bg.frozen 3
        have g_c4 : s1.cell? ⟨ga, 4, none⟩ = some (.int .i64 4097) := (Bg.cell 4).trans rfl
        have g_f4 := Bg.frozen 4
        have g_c5 : s1.cell? ⟨ga, 5, none⟩ = some (.slice E3 T.sets.length e3) := (Bg.cell 5).trans rfl
        have g_f5 := Bg.frozen 5
        go_wp2_with fail
        (with_reducible refine (KF.out.2 _ h1).mono ?_); rintro e s2 ⟨rfl, h2⟩
        go_wp2
        go_ret
        exact ⟨rfl, bl_step (bl_step blf h1) h2⟩
    · have kb3 : (T.kind == 3) = false := by simp; exact k3
      have KK : T.kind = 1 ∨ T.kind = 2 := by rcases HT.out with h | h | h; exact absurd h.1 k0; exact absurd h.1 k3; exact h.1
      replace KK := Lib.hid KK
      clear k0 k3
      have hn : 0 < T.cost.length := by rcases HT.out with h | h | h; have := KK.out; have := h.1; omega; have := KK.out; have := h.1; omega; exact h.2.2.2.2.2.1
      obtain ⟨i, hi, hil⟩ := idx_of P0 hn
      obtain ⟨j, hj, hjl⟩ := idx_of Q0 hn
      have hnz : ¬ (T.cost.length : Int) = 0 := by omega
      have hnil : ¬ T.cost = [] := fun e => by rw [e] at hn; simp at hn
      have wi : IntKind.i64.wrap (i : Int) = (i : Int) := by rw [IntKind.wrap_i64]; omega
      have wj : IntKind.i64.wrap (j : Int) = (j : Int) := by rw [IntKind.wrap_i64]; omega
      have i0 : (0 : Int) ≤ (i : Int) := by omega
      have i1 : (i : Int) < (T.cost.length : Int) := by omega
      have j0 : (0 : Int) ≤ (j : Int) := by omega
      have hq : T.cost[i]? = some T.cost[i] := List.getElem?_eq_getElem hil
      generalize T.cost[i] = r at hq
      have rl : r.length = T.cost.length := by rcases HT.out with h | h | h; have := KK.out; have := h.1; omega; have := KK.out; have := h.1; omega; exact (h.2.2.2.2.2.2.2.1 r (List.mem_of_getElem? hq)).1
      have j1 : (j : Int) < (r.length : Int) := by omega
      have OD5 := OK5.out
      obtain ⟨gh, g, c, rfl, hch, hfr, hcj, ⟨cs, hb⟩, hgb, rows, q1, q2, ⟨r2, q3, q4⟩, q5⟩ := OD5.cost.put (by decide) hq (show j < r.length by omega) (-2147483649)
      have hgg : ga ≠ g := fun e => by have := Ba5.out; rw [e] at this; have h2 := hb.out; rw [this] at h2; simp at h2
      have lg : w.heap.size ≤ g := by have := hgb; omega
      have IN : IIn { T with cost := rows } := ⟨OD5.in_.kind, OD5.in_.cap, OD5.in_.size, OD5.in_.items, fun r' hr' x hx => by
        obtain ⟨k, hk, rfl⟩ := List.getElem_of_mem hr'
        obtain ⟨r0, h0, _, h2⟩ := q2 k _ (List.getElem?_eq_getElem hk)
        rcases h2 x hx with h | rfl
        · exact OD5.in_.cost r0 (List.mem_of_getElem? h0) x h
        · exact ⟨by omega, by omega⟩, OD5.in_.sets⟩
      have OF5 : Hid (OwnI (v.setCell ⟨g, j, none⟩ (.int .i64 (-2147483649))) _ 52 56 { T with cost := rows } E1 e1 (some ⟨gh, 0, none⟩) e2 E3 e3) := Lib.hid ⟨OD5.items.sep (p := ⟨g, j, none⟩) hb (by decide) _, by show OwnR _ _ _ _ (.slice _ rows.length _) rows; rw [q1]; exact q5, OD5.sets.sep (p := ⟨g, j, none⟩) hb (by decide) (by decide) _, IN⟩
      have FC := Lib.hid (far_cost HT.out KK.out q1 (fun k r' h => by obtain ⟨r0, a, b, _⟩ := q2 k r' h; exact ⟨r0, a, b⟩) q3 q4)
      have HG := Lib.hid hgg
      have Q1 := Lib.hid q1
      clear hgg q1 q2 q3 q4 q5 IN hb hq OD5 rl
      go_wp2_with fail
      refine wp_region_pre (S := fun w' => w'.cell? ⟨ga, 3, none⟩ = some (.slice (some ⟨gh, 0, none⟩) T.cost.length e2) ∧ w'.cell? ⟨gh, i, none⟩ = some (.slice (some ⟨g, 0, none⟩) r.length c)) 14 (by kernel_rfl) (by kernel_rfl) ?_ (fun hH0 => ?_)
      · exact ⟨(Ba5.drew.cell 3).trans rfl, hch⟩
      refine PreG.take (i := 0) (v := ?vv51) rfl (by kernel_rfl) (by kernel_rfl) (fun _ _ _ h => h) (Or.inl ⟨by rfl, ?hy51⟩) (by assumption) ?rest51
      case hy51 => intro w hSw; (try dsimp only at hSw); first | (go_simp; done) | (go_simp; with_reducible rfl)
      try simp only [Act.put, List.getElem_toArray, List.getElem_cons_zero, List.getElem_cons_succ, List.setIfInBounds_toArray, List.set_cons_zero, List.set_cons_succ]
      refine PreG.take (i := 1) (v := ?vv52) rfl (by kernel_rfl) (by kernel_rfl) (fun _ _ _ h => h) (Or.inl ⟨by rfl, ?hy52⟩) (by assumption) ?rest52
      case hy52 => intro w hSw; (try dsimp only at hSw); first | (go_simp; done) | (go_simp; with_reducible rfl)
      try simp only [Act.put, List.getElem_toArray, List.getElem_cons_zero, List.getElem_cons_succ, List.setIfInBounds_toArray, List.set_cons_zero, List.set_cons_succ]
      refine PreG.take (i := 2) (v := ?vv53) rfl (by kernel_rfl) (by kernel_rfl) (fun _ _ _ h => h) (Or.inl ⟨by rfl, ?hy53⟩) (by assumption) ?rest53
      case hy53 => intro w hSw; (try dsimp only at hSw); first | (go_simp; done) | (go_simp; with_reducible rfl)
      try simp only [Act.put, List.getElem_toArray, List.getElem_cons_zero, List.getElem_cons_succ, List.setIfInBounds_toArray, List.set_cons_zero, List.set_cons_succ]
      refine PreG.take (i := 3) (v := ?vv54) rfl (by kernel_rfl) (by kernel_rfl) (fun _ _ _ h => h) (Or.inl ⟨by rfl, ?hy54⟩) (by assumption) ?rest54
      case hy54 => intro w hSw; (try dsimp only at hSw); first | (go_simp; done) | (go_simp; with_reducible rfl)
      try simp only [Act.put, List.getElem_toArray, List.getElem_cons_zero, List.getElem_cons_succ, List.setIfInBounds_toArray, List.set_cons_zero, List.set_cons_succ]
      refine PreG.take (i := 4) (v := ?vv55) rfl (by kernel_rfl) (by kernel_rfl) (fun _ _ _ h => h) (Or.inl ⟨by rfl, ?hy55⟩) (by assumption) ?rest55
      case hy55 => intro w hSw; (try dsimp only at hSw); first | (go_simp; done) | (go_simp; with_reducible rfl)
      try simp only [Act.put, List.getElem_toArray, List.getElem_cons_zero, List.getElem_cons_succ, List.setIfInBounds_toArray, List.set_cons_zero, List.set_cons_succ]
      refine PreG.take (i := 5) (v := ?vv56) rfl (by kernel_rfl) (by kernel_rfl) (fun _ _ _ h => h) (Or.inl ⟨by rfl, ?hy56⟩) (by assumption) ?rest56
      case hy56 => intro w hSw; (try dsimp only at hSw); first | (go_simp; done) | (go_simp; with_reducible rfl)
      try simp only [Act.put, List.getElem_toArray, List.getElem_cons_zero, List.getElem_cons_succ, List.setIfInBounds_toArray, List.set_cons_zero, List.set_cons_succ]
      refine PreG.take (i := 6) (v := ?vv57) rfl (by kernel_rfl) (by kernel_rfl) (fun _ _ _ h => h) (Or.inl ⟨by rfl, ?hy57⟩) (by assumption) ?rest57
      case hy57 => intro w hSw; (try dsimp only at hSw); first | (go_simp; done) | (go_simp; with_reducible rfl)
      try simp only [Act.put, List.getElem_toArray, List.getElem_cons_zero, List.getElem_cons_succ, List.setIfInBounds_toArray, List.set_cons_zero, List.set_cons_succ]
      refine PreG.take (i := 7) (v := ?vv58) rfl (by kernel_rfl) (by kernel_rfl) (fun _ _ _ h => h) (Or.inl ⟨by rfl, ?hy58⟩) (by assumption) ?rest58
      case hy58 => intro w hSw; (try dsimp only at hSw); first | (go_simp; done) | (go_simp; with_reducible rfl)
      try simp only [Act.put, List.getElem_toArray, List.getElem_cons_zero, List.getElem_cons_succ, List.setIfInBounds_toArray, List.set_cons_zero, List.set_cons_succ]
      refine PreG.take (i := 8) (v := ?vv59) rfl (by kernel_rfl) (by kernel_rfl) (fun _ _ _ h => h) (Or.inl ⟨by rfl, ?hy59⟩) (by assumption) ?rest59
      case hy59 => intro w hSw; (try dsimp only at hSw); first | (go_simp; done) | (go_simp; with_reducible rfl)
      try simp only [Act.put, List.getElem_toArray, List.getElem_cons_zero, List.getElem_cons_succ, List.setIfInBounds_toArray, List.set_cons_zero, List.set_cons_succ]
      refine PreG.take (i := 9) (v := ?vv60) rfl (by kernel_rfl) (by kernel_rfl) (fun _ _ _ h => h) (Or.inl ⟨by rfl, ?hy60⟩) (by assumption) ?rest60
      case hy60 => intro w hSw; (try dsimp only at hSw); first | (go_simp; done) | (go_simp; with_reducible rfl)
      try simp only [Act.put, List.getElem_toArray, List.getElem_cons_zero, List.getElem_cons_succ, List.setIfInBounds_toArray, List.set_cons_zero, List.set_cons_succ]
      refine PreG.take (i := 10) (v := ?vv61) rfl (by kernel_rfl) (by kernel_rfl) (fun _ _ _ h => h) (Or.inl ⟨by rfl, ?hy61⟩) (by assumption) ?rest61
      case hy61 => intro w hSw; (try dsimp only at hSw); first | (go_simp; done) | (go_simp; with_reducible rfl)
      try simp only [Act.put, List.getElem_toArray, List.getElem_cons_zero, List.getElem_cons_succ, List.setIfInBounds_toArray, List.set_cons_zero, List.set_cons_succ]
      refine PreG.take (i := 11) (v := ?vv62) rfl (by kernel_rfl) (by kernel_rfl) (fun _ _ _ h => h) (Or.inl ⟨by rfl, ?hy62⟩) (by assumption) ?rest62
      case hy62 => intro w hSw; (try dsimp only at hSw); first | (go_simp; done) | (go_simp; with_reducible rfl)
      try simp only [Act.put, List.getElem_toArray, List.getElem_cons_zero, List.getElem_cons_succ, List.setIfInBounds_toArray, List.set_cons_zero, List.set_cons_succ]
      refine PreG.take (i := 12) (v := ?vv63) rfl (by kernel_rfl) (by kernel_rfl) (fun _ _ _ h => h) (Or.inl ⟨by rfl, ?hy63⟩) (by assumption) ?rest63
      case hy63 => intro w hSw; (try dsimp only at hSw); first | (go_simp; done) | (go_simp; with_reducible rfl)
      try simp only [Act.put, List.getElem_toArray, List.getElem_cons_zero, List.getElem_cons_succ, List.setIfInBounds_toArray, List.set_cons_zero, List.set_cons_succ]
      refine PreG.take (i := 13) (v := ?vv64) rfl (by kernel_rfl) (by kernel_rfl) (fun _ _ _ h => h) (Or.inl ⟨by rfl, ?hy64⟩) (by assumption) ?rest64
      case hy64 => intro w hSw; (try dsimp only at hSw); first | (go_simp; done) | (go_simp; with_reducible rfl)
      try simp only [Act.put, List.getElem_toArray, List.getElem_cons_zero, List.getElem_cons_succ, List.setIfInBounds_toArray, List.set_cons_zero, List.set_cons_succ]
      refine PreG.done (by kernel_rfl) ?_
      simp only [List.drop_succ_cons, List.drop_zero]
      clear hH0
      have BW : Blk ((v.setCell ⟨g, j, none⟩ (.int .i64 (-2147483649))).drew) ga 33 #[.int .i64 T.kind, .int .i64 T.cap, .slice E1 T.items.length e1, .slice (some ⟨gh, 0, none⟩) T.cost.length e2, .int .i64 T.size, .slice E3 T.sets.length e3] := (Ba5.far (p := ⟨g, j, none⟩) HG.out _).drew
      have KF := fin_kf (wz := (v.setCell ⟨g, j, none⟩ (.int .i64 (-2147483649))).drew) (OF5.out.below (bl_drew (Below.refl _ _))) (FC.out)
      simp only [Q1.out] at KF
      replace KF := Lib.hid KF
      have blf : Below w.heap.size w ((v.setCell ⟨g, j, none⟩ (.int .i64 (-2147483649))).drew) := bl_drew (bl_set bl5 (p := ⟨g, j, none⟩) lg _)
      have b_z : ga < ((v.setCell ⟨g, j, none⟩ (.int .i64 (-2147483649))).drew).heap.size := BW.lt
      have b_c0 : ((v.setCell ⟨g, j, none⟩ (.int .i64 (-2147483649))).drew).cell? ⟨ga, 0, none⟩ = some (.int .i64 T.kind) := (BW.cell 0).trans rfl
      have b_f0 := BW.frozen 0
      have b_c1 : ((v.setCell ⟨g, j, none⟩ (.int .i64 (-2147483649))).drew).cell? ⟨ga, 1, none⟩ = some (.int .i64 T.cap) := (BW.cell 1).trans rfl
      have b_f1 := BW.frozen 1
      have b_c2 : ((v.setCell ⟨g, j, none⟩ (.int .i64 (-2147483649))).drew).cell? ⟨ga, 2, none⟩ = some (.slice E1 T.items.length e1) := (BW.cell 2).trans rfl
      have b_f2 := BW.frozen 2
      have b_c3 : ((v.setCell ⟨g, j, none⟩ (.int .i64 (-2147483649))).drew).cell? ⟨ga, 3, none⟩ = some (.slice (some ⟨gh, 0, none⟩) T.cost.length e2) := (BW.cell 3).trans rfl
      have b_f3 := BW.frozen 3
      have b_c4 : ((v.setCell ⟨g, j, none⟩ (.int .i64 (-2147483649))).drew).cell? ⟨ga, 4, none⟩ = some (.int .i64 T.size) := (BW.cell 4).trans rfl
      have b_f4 := BW.frozen 4
      have b_c5 : ((v.setCell ⟨g, j, none⟩ (.int .i64 (-2147483649))).drew).cell? ⟨ga, 5, none⟩ = some (.slice E3 T.sets.length e3) := (BW.cell 5).trans rfl
      have b_f5 := BW.frozen 5
      clear OF5 FC a_z a_c0 a_f0 a_c1 a_f1 a_c2 a_f2 a_c3 a_f3 a_c4 a_f4 a_c5 a_f5
      go_wp2_with fail
      (with_reducible refine (KF.out.1 _ (Below.refl _ _)).mono ?_); rintro e s1 ⟨rfl, h1⟩
      have Bg := BW.below h1
      clear b_z b_c0 b_f0 b_c1 b_f1 b_c2 b_f2 b_c3 b_f3 b_c4 b_f4 b_c5 b_f5
      have g_z : ga < s1.heap.size := Bg.lt
      have g_c0 : s1.cell? ⟨ga, 0, none⟩ = some (.int .i64 T.kind) := (Bg.cell 0).trans rfl
      have g_f0 := Bg.frozen 0
      have g_c1 : s1.cell? ⟨ga, 1, none⟩ = some (.int .i64 T.cap) := (Bg.cell 1).trans rfl
      have g_f1 := Bg.frozen 1
      have g_c2 : s1.cell? ⟨ga, 2, none⟩ = some (.slice E1 T.items.length e1) := (Bg.cell 2).trans rfl
      have g_f2 := Bg.frozen 2
      have g_c3 : s1.cell? ⟨ga, 3, none⟩ = some (.slice (some ⟨gh, 0, none⟩) T.cost.length e2) := (Bg.cell 3).trans rfl
      have g_f3 := Bg.frozen 3
      have g_c4 : s1.cell? ⟨ga, 4, none⟩ = some (.int .i64 T.size) := (Bg.cell 4).trans rfl
      have g_f4 := Bg.frozen 4
      have g_c5 : s1.cell? ⟨ga, 5, none⟩ = some (.slice E3 T.sets.length e3) := (Bg.cell 5).trans rfl
      have g_f5 := Bg.frozen 5
      go_wp2_with fail
      (with_reducible refine (KF.out.2 _ h1).mono ?_); rintro e s2 ⟨rfl, h2⟩
      go_wp2
      go_ret
      exact ⟨rfl, bl_step (bl_step blf h1) h2⟩
end Go.Proofs.YteddbdmddgmicaaDoor
