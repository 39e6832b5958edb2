/- The walk of tame. -/
import Derived.Test.YteddbdmddgmicaaDoorIT
namespace Go.Proofs.YteddbdmddgmicaaDoor
open Go.RowKit
set_option linter.unusedVariables false
set_option linter.unusedSimpArgs false
set_option maxRecDepth 100000

set_option maxHeartbeats 12800000 in
theorem tame_any (I : IData) (A1 A2 A3 : Option Addr) (c1 c2 c3 : Nat) (mo : Nat) (hmo : 1 ≤ mo ∧ mo ≤ 40) (w : World) {B : Nat} (hI : InstAt w B I A1 c1 A2 c2 A3 c3) :
    Calls Tryd.prog 7 #[.agg #[.int .i64 I.kind, .int .i64 I.cap, .slice A1 I.items.length c1, .slice A2 I.cost.length c2, .int .i64 I.size, .slice A3 I.sets.length c3], .int .i64 (mo : Nat)] w fun e w' => TamePost w mo e w' := by
  have HI := Lib.hid hI
  have N1 := hI.n1
  have N2 := hI.n2
  have N3 := hI.n3
  have IK := hI.in_.kind
  obtain ⟨ik1, ik2⟩ := IK
  clear hI
  obtain ⟨K, hK⟩ : ∃ K, Int.tmod (Int.tmod I.kind 4 + 4) 4 = K := ⟨_, rfl⟩
  have K0 : 0 ≤ K ∧ K ≤ 3 := by
    have := Int.tmod_lt_of_pos (Int.tmod I.kind 4 + 4) (show (0 : Int) < 4 by decide)
    have a1 := Int.tmod_lt_of_pos I.kind (show (0 : Int) < 4 by decide)
    have a2 : -4 < Int.tmod I.kind 4 := Int.lt_tmod_of_pos I.kind (show (0 : Int) < 4 by decide)
    have a3 := Int.tmod_nonneg (4 : Int) (show 0 ≤ Int.tmod I.kind 4 + 4 by omega)
    omega
  have aa := Int.lt_tmod_of_pos I.kind (show (0 : Int) < 4 by decide)
  have ab := Int.tmod_lt_of_pos I.kind (show (0 : Int) < 4 by decide)
  have w1 : IntKind.i64.wrap (Int.tmod I.kind 4) = Int.tmod I.kind 4 := by rw [IntKind.wrap_i64]; omega
  have w2 : IntKind.i64.wrap (Int.tmod I.kind 4 + 4) = Int.tmod I.kind 4 + 4 := by rw [IntKind.wrap_i64]; omega
  have w3 : IntKind.i64.wrap K = K := by rw [IntKind.wrap_i64]; omega
  clear aa ab
  by_cases k0 : K = 0
  · subst k0
    obtain ⟨m, M⟩ : ∃ m, (I.items.take mo).length = m := ⟨_, rfl⟩
    have E1 : (if mo < I.items.length then (mo : Int) else (I.items.length : Int)) = (m : Int) := by rw [List.length_take] at M; split <;> omega
    have B1 : m ≤ mo ∧ m ≤ I.items.length := by rw [List.length_take] at M; omega
    obtain ⟨cp, hcp⟩ : ∃ cp, (if (0 : Int) < clampR I.cap then clampR I.cap else 0) = cp := ⟨_, rfl⟩
    have ccp : ClI cp := by have := clamp_in I.cap; unfold ClI; split at hcp <;> omega
    clear M
    go_enter Tryd.func7, Tryd.ntmps7
    go_wp2_with fail
    have H0 : TmR (((w.alloc (.cells #[.int .i64 I.kind, .int .i64 I.cap, .slice A1 I.items.length c1, .slice A2 I.cost.length c2, .int .i64 I.size, .slice A3 I.sets.length c3] 26)).alloc (.cells #[.int .i64 0, .int .i64 0, .slice none 0 0, .slice none 0 0, .int .i64 0, .slice none 0 0] 26)).alloc (.cells #[.int .i64 0, .int .i64 0, .slice none 0 0, .slice none 0 0, .int .i64 0, .slice none 0 0] 26)) w I A1 A2 A3 c1 c2 c3 0 0 0 (.slice none 0 0) (.slice none 0 0) (.slice none 0 0) :=
      ⟨((Blk.new _ _ _).alloc _).alloc _, (Blk.new' (by simp) _ _).alloc _, Blk.new' (by simp) _ _, bl_alloc (bl_alloc (bl_alloc (Below.refl _ _) _) _) _⟩
    (with_reducible refine (clamp_any _ _).mono ?_); rintro e u1 ⟨rfl, hb1⟩
    have H1 := H0.below hb1
    clear H0
    have ax_z : w.heap.size < u1.heap.size := H1.par.lt
    have ax_c0 : u1.cell? ⟨w.heap.size, 0, none⟩ = some (.int .i64 I.kind) := (H1.par.cell 0).trans rfl
    have ax_f0 := H1.par.frozen 0
    have ax_c1 : u1.cell? ⟨w.heap.size, 1, none⟩ = some (.int .i64 I.cap) := (H1.par.cell 1).trans rfl
    have ax_f1 := H1.par.frozen 1
    have ax_c2 : u1.cell? ⟨w.heap.size, 2, none⟩ = some (.slice A1 I.items.length c1) := (H1.par.cell 2).trans rfl
    have ax_f2 := H1.par.frozen 2
    have ax_c3 : u1.cell? ⟨w.heap.size, 3, none⟩ = some (.slice A2 I.cost.length c2) := (H1.par.cell 3).trans rfl
    have ax_f3 := H1.par.frozen 3
    have ax_c4 : u1.cell? ⟨w.heap.size, 4, none⟩ = some (.int .i64 I.size) := (H1.par.cell 4).trans rfl
    have ax_f4 := H1.par.frozen 4
    have ax_c5 : u1.cell? ⟨w.heap.size, 5, none⟩ = some (.slice A3 I.sets.length c3) := (H1.par.cell 5).trans rfl
    have ax_f5 := H1.par.frozen 5
    have ao_z : w.heap.size + 1 + 1 < u1.heap.size := H1.out.lt
    have ao_c0 : u1.cell? ⟨w.heap.size + 1 + 1, 0, none⟩ = some (.int .i64 0) := (H1.out.cell 0).trans rfl
    have ao_f0 := H1.out.frozen 0
    have ao_c1 : u1.cell? ⟨w.heap.size + 1 + 1, 1, none⟩ = some (.int .i64 0) := (H1.out.cell 1).trans rfl
    have ao_f1 := H1.out.frozen 1
    have ao_c2 : u1.cell? ⟨w.heap.size + 1 + 1, 2, none⟩ = some (.slice none 0 0) := (H1.out.cell 2).trans rfl
    have ao_f2 := H1.out.frozen 2
    have ao_c3 : u1.cell? ⟨w.heap.size + 1 + 1, 3, none⟩ = some (.slice none 0 0) := (H1.out.cell 3).trans rfl
    have ao_f3 := H1.out.frozen 3
    have ao_c4 : u1.cell? ⟨w.heap.size + 1 + 1, 4, none⟩ = some (.int .i64 0) := (H1.out.cell 4).trans rfl
    have ao_f4 := H1.out.frozen 4
    have ao_c5 : u1.cell? ⟨w.heap.size + 1 + 1, 5, none⟩ = some (.slice none 0 0) := (H1.out.cell 5).trans rfl
    have ao_f5 := H1.out.frozen 5
    go_wp2_with fail
    have H2 := Lib.hid (H1.put 1 (.int .i64 cp) rfl)
    go_loopw [108] (fun vi wr => ∃ (i : Nat) (v1 : Value) (l : List (Int × Int)), vi = .int .i64 i ∧ i ≤ m ∧ Hid (TmR wr w I A1 A2 A3 c1 c2 c3 0 cp 0 v1 (.slice none 0 0) (.slice none 0 0)) ∧ Hid (OwnP wr (w.heap.size + 1 + 1 + 1) 60 v1 l) ∧ Hid (l.length = i ∧ ∀ p ∈ l, ClI p.1 ∧ ClI p.2)) (fun vi _ => m - (intOf vi).toNat)
    case atStart => exact ⟨0, _, [], rfl, Nat.zero_le _, H2, Lib.hid (own_nil _ _ _ _), Lib.hid ⟨rfl, fun p hp => by simp at hp⟩⟩
    case round =>
      clear H1 H2 ax_z ax_c0 ax_f0 ax_c1 ax_f1 ax_c2 ax_f2 ax_c3 ax_f3 ax_c4 ax_f4 ax_c5 ax_f5 ao_z ao_c0 ao_f0 ao_c1 ao_f1 ao_c2 ao_f2 ao_c3 ao_f3 ao_c4 ao_f4 ao_c5 ao_f5
      obtain ⟨i, v1, l, rfl, hi, HR, HO, HL⟩ := hrel
      by_cases hlt : i < m
      · obtain ⟨p, hp⟩ : ∃ p, I.items[i]? = some p := ⟨_, List.getElem?_eq_getElem (by omega)⟩
        obtain ⟨b, o, rfl, hbB, hc1, hc2⟩ := HI.out.items.get hp
        have hc1 := (HR.out.b.cell (p := ⟨b, o + i * 2, none⟩) (Nat.lt_of_lt_of_le hbB HI.out.bd)).trans hc1
        have hc2 := (HR.out.b.cell (p := ⟨b, o + i * 2 + 1, none⟩) (Nat.lt_of_lt_of_le hbB HI.out.bd)).trans hc2
        obtain ⟨x, hx⟩ : ∃ x, (if (0 : Int) < clampR p.1 then clampR p.1 else 0) = x := ⟨_, rfl⟩
        obtain ⟨y, hy⟩ : ∃ y, (if (0 : Int) < clampR p.2 then clampR p.2 else 0) = y := ⟨_, rfl⟩
        have XY : Hid (ClI x ∧ ClI y) := Lib.hid (by have a := clamp_in p.1; have b := clamp_in p.2; unfold ClI; constructor; (split at hx <;> omega); (split at hy <;> omega))
        have i0 : (0 : Int) ≤ (i : Int) := by omega
        have i1 : (i : Int) < (m : Int) := by omega
        have ll : l.length = i := HL.out.1
        have hln : l.length ≤ 70 := by omega
        clear hp ll
        have nv : ∀ k, wr.heap.size ≤ k → some k ≠ v1.ownBlock := fun k hk e => by have := own_sz HO.out k e.symm; omega
        have bx_z : w.heap.size < wr.heap.size := HR.out.par.lt
        have bx_c0 : wr.cell? ⟨w.heap.size, 0, none⟩ = some (.int .i64 I.kind) := (HR.out.par.cell 0).trans rfl
        have bx_f0 := HR.out.par.frozen 0
        have bx_c1 : wr.cell? ⟨w.heap.size, 1, none⟩ = some (.int .i64 I.cap) := (HR.out.par.cell 1).trans rfl
        have bx_f1 := HR.out.par.frozen 1
        have bx_c2 : wr.cell? ⟨w.heap.size, 2, none⟩ = some (.slice (some ⟨b, o, none⟩) I.items.length c1) := (HR.out.par.cell 2).trans rfl
        have bx_f2 := HR.out.par.frozen 2
        have bx_c3 : wr.cell? ⟨w.heap.size, 3, none⟩ = some (.slice A2 I.cost.length c2) := (HR.out.par.cell 3).trans rfl
        have bx_f3 := HR.out.par.frozen 3
        have bx_c4 : wr.cell? ⟨w.heap.size, 4, none⟩ = some (.int .i64 I.size) := (HR.out.par.cell 4).trans rfl
        have bx_f4 := HR.out.par.frozen 4
        have bx_c5 : wr.cell? ⟨w.heap.size, 5, none⟩ = some (.slice A3 I.sets.length c3) := (HR.out.par.cell 5).trans rfl
        have bx_f5 := HR.out.par.frozen 5
        have bo_z : w.heap.size + 1 + 1 < wr.heap.size := HR.out.out.lt
        have bo_c0 : wr.cell? ⟨w.heap.size + 1 + 1, 0, none⟩ = some (.int .i64 0) := (HR.out.out.cell 0).trans rfl
        have bo_f0 := HR.out.out.frozen 0
        have bo_c1 : wr.cell? ⟨w.heap.size + 1 + 1, 1, none⟩ = some (.int .i64 cp) := (HR.out.out.cell 1).trans rfl
        have bo_f1 := HR.out.out.frozen 1
        have bo_c2 : wr.cell? ⟨w.heap.size + 1 + 1, 2, none⟩ = some (v1) := (HR.out.out.cell 2).trans rfl
        have bo_f2 := HR.out.out.frozen 2
        have bo_c3 : wr.cell? ⟨w.heap.size + 1 + 1, 3, none⟩ = some (.slice none 0 0) := (HR.out.out.cell 3).trans rfl
        have bo_f3 := HR.out.out.frozen 3
        have bo_c4 : wr.cell? ⟨w.heap.size + 1 + 1, 4, none⟩ = some (.int .i64 0) := (HR.out.out.cell 4).trans rfl
        have bo_f4 := HR.out.out.frozen 4
        have bo_c5 : wr.cell? ⟨w.heap.size + 1 + 1, 5, none⟩ = some (.slice none 0 0) := (HR.out.out.cell 5).trans rfl
        have bo_f5 := HR.out.out.frozen 5
        go_wp2_with fail
        have HS := Lib.hid (HR.out.below (bl_alloc (Below.refl _ _) (.cells #[.int .i64 p.1, .int .i64 p.2] 60)))
        have HP := Lib.hid (HO.out.below (bl_alloc (Below.refl _ _) (.cells #[.int .i64 p.1, .int .i64 p.2] 60)))
        have B7 := Blk.new wr 60 #[.int .i64 p.1, .int .i64 p.2]
        have hsz := HR.out.size
        clear HR HO bx_z bx_c0 bx_f0 bx_c1 bx_f1 bx_c2 bx_f2 bx_c3 bx_f3 bx_c4 bx_f4 bx_c5 bx_f5 bo_z bo_c0 bo_f0 bo_c1 bo_f1 bo_c2 bo_f2 bo_c3 bo_f3 bo_c4 bo_f4 bo_c5 bo_f5
        generalize wr.alloc (.cells #[.int .i64 p.1, .int .i64 p.2] 60) = wq at HS HP B7 ⊢
        have g7 := B7.lt
        refine wp_region_pre (S := fun w' => w'.cell? ⟨w.heap.size + 1 + 1, 2, none⟩ = some v1 ∧ w'.cell? ⟨wr.heap.size, 0, none⟩ = some (.int .i64 p.1) ∧ w'.cell? ⟨wr.heap.size, 1, none⟩ = some (.int .i64 p.2)) 16 (by kernel_rfl) (by kernel_rfl) ?_ (fun hH0 => ?_)
        · exact ⟨((HS.out.below (bl_drew (Below.refl _ _))).out.cell 2).trans rfl, ((B7.below (bl_drew (Below.refl _ _))).cell 0).trans rfl, ((B7.below (bl_drew (Below.refl _ _))).cell 1).trans rfl⟩
        refine PreG.take (i := 0) (v := ?vv1) rfl (by kernel_rfl) (by kernel_rfl) (fun _ _ _ h => h) (Or.inl ⟨by rfl, ?hy1⟩) (by assumption) ?rest1
        case hy1 => intro w hSw; (try dsimp only at hSw); first | (go_simp; done) | (go_simp; with_reducible rfl)
        try simp only [Act.put, List.getElem_toArray, List.getElem_cons_zero, List.getElem_cons_succ, List.setIfInBounds_toArray, List.set_cons_zero, List.set_cons_succ]
        refine PreG.take (i := 1) (v := ?vv2) rfl (by kernel_rfl) (by kernel_rfl) (fun _ _ _ h => h) (Or.inl ⟨by rfl, ?hy2⟩) (by assumption) ?rest2
        case hy2 => intro w hSw; (try dsimp only at hSw); first | (go_simp; done) | (go_simp; with_reducible rfl)
        try simp only [Act.put, List.getElem_toArray, List.getElem_cons_zero, List.getElem_cons_succ, List.setIfInBounds_toArray, List.set_cons_zero, List.set_cons_succ]
        refine PreG.take (i := 2) (v := ?vv3) rfl (by kernel_rfl) (by kernel_rfl) (fun _ _ _ h => h) (Or.inl ⟨by rfl, ?hy3⟩) (by assumption) ?rest3
        case hy3 => intro w hSw; (try dsimp only at hSw); first | (go_simp; done) | (go_simp; with_reducible rfl)
        try simp only [Act.put, List.getElem_toArray, List.getElem_cons_zero, List.getElem_cons_succ, List.setIfInBounds_toArray, List.set_cons_zero, List.set_cons_succ]
        refine PreG.take (i := 3) (v := ?vv4) rfl (by kernel_rfl) (by kernel_rfl) (fun _ _ _ h => h) (Or.inl ⟨by rfl, ?hy4⟩) (by assumption) ?rest4
        case hy4 => intro w hSw; (try dsimp only at hSw); first | (go_simp; done) | (go_simp; with_reducible rfl)
        try simp only [Act.put, List.getElem_toArray, List.getElem_cons_zero, List.getElem_cons_succ, List.setIfInBounds_toArray, List.set_cons_zero, List.set_cons_succ]
        refine PreG.take (i := 4) (v := ?vv5) rfl (by kernel_rfl) (by kernel_rfl) (fun _ _ _ h => h) (Or.inl ⟨by rfl, ?hy5⟩) (by assumption) ?rest5
        case hy5 => intro w hSw; (try dsimp only at hSw); first | (go_simp; done) | (go_simp; with_reducible rfl)
        try simp only [Act.put, List.getElem_toArray, List.getElem_cons_zero, List.getElem_cons_succ, List.setIfInBounds_toArray, List.set_cons_zero, List.set_cons_succ]
        refine PreG.take (i := 7) (v := ?vv6) rfl (by kernel_rfl) (by kernel_rfl) (fun _ _ _ h => h) (Or.inl ⟨by rfl, ?hy6⟩) (by assumption) ?rest6
        case hy6 => intro w hSw; (try dsimp only at hSw); first | (go_simp; done) | (go_simp; with_reducible rfl)
        try simp only [Act.put, List.getElem_toArray, List.getElem_cons_zero, List.getElem_cons_succ, List.setIfInBounds_toArray, List.set_cons_zero, List.set_cons_succ]
        refine PreG.take (i := 8) (v := ?vv7) rfl (by kernel_rfl) (by kernel_rfl) (fun _ _ _ h => h) (Or.inl ⟨by rfl, ?hy7⟩) (by assumption) ?rest7
        case hy7 => intro w hSw; (try dsimp only at hSw); first | (go_simp; done) | (go_simp; with_reducible rfl)
        try simp only [Act.put, List.getElem_toArray, List.getElem_cons_zero, List.getElem_cons_succ, List.setIfInBounds_toArray, List.set_cons_zero, List.set_cons_succ]
        refine PreG.take (i := 9) (v := ?vv8) rfl (by kernel_rfl) (by kernel_rfl) (fun _ _ _ h => h) (Or.inl ⟨by rfl, ?hy8⟩) (by assumption) ?rest8
        case hy8 => intro w hSw; (try dsimp only at hSw); first | (go_simp; done) | (go_simp; with_reducible rfl)
        try simp only [Act.put, List.getElem_toArray, List.getElem_cons_zero, List.getElem_cons_succ, List.setIfInBounds_toArray, List.set_cons_zero, List.set_cons_succ]
        refine PreG.ready (rs := [5]) (by kernel_rfl) (by kernel_rfl) ?_
        refine AllPre.cons rfl (fun K hK => ?_) ?_
        · go_simp
          (with_reducible refine (clamp_any _ _).mono ?_); rintro e X9 ⟨rfl, hb9⟩
          go_wp2_with fail
          have h_9 := (HS.out.below (bl_drew (Below.refl _ _))).below hb9
          have o_9 := (HP.out.below (bl_drew (Below.refl _ _))).below hb9
          have t_9 := (B7.below (bl_drew (Below.refl _ _))).below hb9
          refine hK.out _ _ ?_ (fun hH1 => ?_)
          · exact ⟨(h_9.out.cell 2).trans rfl, (t_9.cell 0).trans rfl, (t_9.cell 1).trans rfl⟩
          clear hK K hH0
          try simp only [Act.put, List.getElem_toArray, List.getElem_cons_zero, List.getElem_cons_succ, List.setIfInBounds_toArray, List.set_cons_zero, List.set_cons_succ]
          refine PreG.take (i := 6) (v := ?vv10) rfl (by kernel_rfl) (by kernel_rfl) (fun _ _ _ h => h) (Or.inl ⟨by rfl, ?hy10⟩) (by assumption) ?rest10
          case hy10 => intro w hSw; (try dsimp only at hSw); first | (go_simp; done) | (go_simp; with_reducible rfl)
          try simp only [Act.put, List.getElem_toArray, List.getElem_cons_zero, List.getElem_cons_succ, List.setIfInBounds_toArray, List.set_cons_zero, List.set_cons_succ]
          refine PreG.ready (rs := [10]) (by kernel_rfl) (by kernel_rfl) ?_
          refine AllPre.cons rfl (fun K hK => ?_) ?_
          · go_simp
            (with_reducible refine (clamp_any _ _).mono ?_); rintro e X11 ⟨rfl, hb11⟩
            go_wp2_with fail
            have h_11 := h_9.below hb11
            have o_11 := o_9.below hb11
            have t_11 := t_9.below hb11
            refine hK.out _ _ ?_ (fun hH2 => ?_)
            · exact ⟨(h_11.out.cell 2).trans rfl, (t_11.cell 0).trans rfl, (t_11.cell 1).trans rfl⟩
            clear hK K hH1
            try simp only [Act.put, List.getElem_toArray, List.getElem_cons_zero, List.getElem_cons_succ, List.setIfInBounds_toArray, List.set_cons_zero, List.set_cons_succ]
            refine PreG.take (i := 11) (v := ?vv12) rfl (by kernel_rfl) (by kernel_rfl) (fun _ _ _ h => h) (Or.inl ⟨by rfl, ?hy12⟩) (by assumption) ?rest12
            case hy12 => intro w hSw; (try dsimp only at hSw); first | (go_simp; done) | (go_simp; with_reducible rfl)
            try simp only [Act.put, List.getElem_toArray, List.getElem_cons_zero, List.getElem_cons_succ, List.setIfInBounds_toArray, List.set_cons_zero, List.set_cons_succ]
            refine PreG.take (i := 12) (v := ?vv13) rfl (by kernel_rfl) (by kernel_rfl) (fun _ _ _ h => h) (Or.inl ⟨by rfl, ?hy13⟩) (by assumption) ?rest13
            case hy13 => intro w hSw; (try dsimp only at hSw); first | (go_simp; done) | (go_simp; with_reducible rfl)
            try simp only [Act.put, List.getElem_toArray, List.getElem_cons_zero, List.getElem_cons_succ, List.setIfInBounds_toArray, List.set_cons_zero, List.set_cons_succ]
            refine PreG.ready (rs := [13]) (by kernel_rfl) (by kernel_rfl) ?_
            refine AllPre.cons rfl (fun K hK => ?_) ?_
            · go_simp
              refine hK.out _ _ ?_ (fun hH3 => ?_)
              · exact ⟨((h_11.below (bl_alloc (Below.refl _ _) _)).out.cell 2).trans rfl, ((t_11.below (bl_alloc (Below.refl _ _) _)).cell 0).trans rfl, ((t_11.below (bl_alloc (Below.refl _ _) _)).cell 1).trans rfl⟩
              clear hK K hH2
              try simp only [Act.put, List.getElem_toArray, List.getElem_cons_zero, List.getElem_cons_succ, List.setIfInBounds_toArray, List.set_cons_zero, List.set_cons_succ]
              refine PreG.ready (rs := [14]) (by kernel_rfl) (by kernel_rfl) ?_
              refine AllPre.cons rfl (fun K hK => ?_) ?_
              · obtain ⟨D15, d15, X15, ra15, HA15, HO15, ga15⟩ := TmR.runP (h_11.below (bl_alloc (Below.refl _ _) _)) (o_11.below (bl_alloc (Below.refl _ _) _)) (t := _) (Blk.new' (b := X11.heap.size) (by simp) _ _) hln 22
                refine step_run rfl (.tmp 113) (.tmp 125) 22 rfl (by exact ra15) ?_
                have t_15 := (t_11.below (bl_alloc (Below.refl _ _) _)).grown ga15 (nv _ (Nat.le_refl _))
                refine hK.out _ _ ?_ (fun hH4 => ?_)
                · exact ⟨(HA15.out.cell 2).trans rfl, (t_15.cell 0).trans rfl, (t_15.cell 1).trans rfl⟩
                clear hK K hH3
                try simp only [Act.put, List.getElem_toArray, List.getElem_cons_zero, List.getElem_cons_succ, List.setIfInBounds_toArray, List.set_cons_zero, List.set_cons_succ]
                refine PreG.take (i := 15) (v := ?vv16) rfl (by kernel_rfl) (by kernel_rfl) (fun _ _ _ h => h) (Or.inl ⟨by rfl, ?hy16⟩) (by assumption) ?rest16
                case hy16 => intro w hSw; (try dsimp only at hSw); first | (go_simp; done) | (go_simp; with_reducible rfl)
                try simp only [Act.put, List.getElem_toArray, List.getElem_cons_zero, List.getElem_cons_succ, List.setIfInBounds_toArray, List.set_cons_zero, List.set_cons_succ]
                refine PreG.done (by kernel_rfl) ?_
                simp only [List.drop_succ_cons, List.drop_zero]
                clear hH4
                have ex_z : w.heap.size < X15.heap.size := HA15.par.lt
                have ex_c0 : X15.cell? ⟨w.heap.size, 0, none⟩ = some (.int .i64 I.kind) := (HA15.par.cell 0).trans rfl
                have ex_f0 := HA15.par.frozen 0
                have ex_c1 : X15.cell? ⟨w.heap.size, 1, none⟩ = some (.int .i64 I.cap) := (HA15.par.cell 1).trans rfl
                have ex_f1 := HA15.par.frozen 1
                have ex_c2 : X15.cell? ⟨w.heap.size, 2, none⟩ = some (.slice (some ⟨b, o, none⟩) I.items.length c1) := (HA15.par.cell 2).trans rfl
                have ex_f2 := HA15.par.frozen 2
                have ex_c3 : X15.cell? ⟨w.heap.size, 3, none⟩ = some (.slice A2 I.cost.length c2) := (HA15.par.cell 3).trans rfl
                have ex_f3 := HA15.par.frozen 3
                have ex_c4 : X15.cell? ⟨w.heap.size, 4, none⟩ = some (.int .i64 I.size) := (HA15.par.cell 4).trans rfl
                have ex_f4 := HA15.par.frozen 4
                have ex_c5 : X15.cell? ⟨w.heap.size, 5, none⟩ = some (.slice A3 I.sets.length c3) := (HA15.par.cell 5).trans rfl
                have ex_f5 := HA15.par.frozen 5
                have eo_z : w.heap.size + 1 + 1 < X15.heap.size := HA15.out.lt
                have eo_c0 : X15.cell? ⟨w.heap.size + 1 + 1, 0, none⟩ = some (.int .i64 0) := (HA15.out.cell 0).trans rfl
                have eo_f0 := HA15.out.frozen 0
                have eo_c1 : X15.cell? ⟨w.heap.size + 1 + 1, 1, none⟩ = some (.int .i64 cp) := (HA15.out.cell 1).trans rfl
                have eo_f1 := HA15.out.frozen 1
                have eo_c2 : X15.cell? ⟨w.heap.size + 1 + 1, 2, none⟩ = some (v1) := (HA15.out.cell 2).trans rfl
                have eo_f2 := HA15.out.frozen 2
                have eo_c3 : X15.cell? ⟨w.heap.size + 1 + 1, 3, none⟩ = some (.slice none 0 0) := (HA15.out.cell 3).trans rfl
                have eo_f3 := HA15.out.frozen 3
                have eo_c4 : X15.cell? ⟨w.heap.size + 1 + 1, 4, none⟩ = some (.int .i64 0) := (HA15.out.cell 4).trans rfl
                have eo_f4 := HA15.out.frozen 4
                have eo_c5 : X15.cell? ⟨w.heap.size + 1 + 1, 5, none⟩ = some (.slice none 0 0) := (HA15.out.cell 5).trans rfl
                have eo_f5 := HA15.out.frozen 5
                go_wp2_with fail
                go_roundw
                case rel => exact ⟨i + 1, (.slice D15 (l.length + 1) d15), l ++ [(x, y)], by go_num, by omega, Lib.hid (HA15.put 2 (.slice D15 (l.length + 1) d15) rfl), Lib.hid (HO15.set (by simp) _), Lib.hid ⟨by simp [HL.out.1], fun q hq => by rcases List.mem_append.1 hq with h | h; exact HL.out.2 q h; simp at h; subst h; exact XY.out⟩⟩
                case measure => simp only [intOf]; omega
              exact AllPre.nil
            exact AllPre.nil
          exact AllPre.nil
        exact AllPre.nil
      · obtain rfl : i = m := by omega
        clear hlt hi
        have HL2 := HL
        obtain ⟨D1, d1, rfl, -⟩ := own_slice HO.out
        have ex_z : w.heap.size < wr.heap.size := HR.out.par.lt
        have ex_c0 : wr.cell? ⟨w.heap.size, 0, none⟩ = some (.int .i64 I.kind) := (HR.out.par.cell 0).trans rfl
        have ex_f0 := HR.out.par.frozen 0
        have ex_c1 : wr.cell? ⟨w.heap.size, 1, none⟩ = some (.int .i64 I.cap) := (HR.out.par.cell 1).trans rfl
        have ex_f1 := HR.out.par.frozen 1
        have ex_c2 : wr.cell? ⟨w.heap.size, 2, none⟩ = some (.slice A1 I.items.length c1) := (HR.out.par.cell 2).trans rfl
        have ex_f2 := HR.out.par.frozen 2
        have ex_c3 : wr.cell? ⟨w.heap.size, 3, none⟩ = some (.slice A2 I.cost.length c2) := (HR.out.par.cell 3).trans rfl
        have ex_f3 := HR.out.par.frozen 3
        have ex_c4 : wr.cell? ⟨w.heap.size, 4, none⟩ = some (.int .i64 I.size) := (HR.out.par.cell 4).trans rfl
        have ex_f4 := HR.out.par.frozen 4
        have ex_c5 : wr.cell? ⟨w.heap.size, 5, none⟩ = some (.slice A3 I.sets.length c3) := (HR.out.par.cell 5).trans rfl
        have ex_f5 := HR.out.par.frozen 5
        have eo_z : w.heap.size + 1 + 1 < wr.heap.size := HR.out.out.lt
        have eo_c0 : wr.cell? ⟨w.heap.size + 1 + 1, 0, none⟩ = some (.int .i64 0) := (HR.out.out.cell 0).trans rfl
        have eo_f0 := HR.out.out.frozen 0
        have eo_c1 : wr.cell? ⟨w.heap.size + 1 + 1, 1, none⟩ = some (.int .i64 cp) := (HR.out.out.cell 1).trans rfl
        have eo_f1 := HR.out.out.frozen 1
        have eo_c2 : wr.cell? ⟨w.heap.size + 1 + 1, 2, none⟩ = some (.slice D1 l.length d1) := (HR.out.out.cell 2).trans rfl
        have eo_f2 := HR.out.out.frozen 2
        have eo_c3 : wr.cell? ⟨w.heap.size + 1 + 1, 3, none⟩ = some (.slice none 0 0) := (HR.out.out.cell 3).trans rfl
        have eo_f3 := HR.out.out.frozen 3
        have eo_c4 : wr.cell? ⟨w.heap.size + 1 + 1, 4, none⟩ = some (.int .i64 0) := (HR.out.out.cell 4).trans rfl
        have eo_f4 := HR.out.out.frozen 4
        have eo_c5 : wr.cell? ⟨w.heap.size + 1 + 1, 5, none⟩ = some (.slice none 0 0) := (HR.out.out.cell 5).trans rfl
        have eo_f5 := HR.out.out.frozen 5
        have r_z : w.heap.size + 1 < wr.heap.size := HR.out.res.lt
        have r_c0 : wr.cell? ⟨w.heap.size + 1, 0, none⟩ = some (.int .i64 0) := (HR.out.res.cell 0).trans rfl
        have r_f0 := HR.out.res.frozen 0
        have r_c1 : wr.cell? ⟨w.heap.size + 1, 1, none⟩ = some (.int .i64 0) := (HR.out.res.cell 1).trans rfl
        have r_f1 := HR.out.res.frozen 1
        have r_c2 : wr.cell? ⟨w.heap.size + 1, 2, none⟩ = some (.slice none 0 0) := (HR.out.res.cell 2).trans rfl
        have r_f2 := HR.out.res.frozen 2
        have r_c3 : wr.cell? ⟨w.heap.size + 1, 3, none⟩ = some (.slice none 0 0) := (HR.out.res.cell 3).trans rfl
        have r_f3 := HR.out.res.frozen 3
        have r_c4 : wr.cell? ⟨w.heap.size + 1, 4, none⟩ = some (.int .i64 0) := (HR.out.res.cell 4).trans rfl
        have r_f4 := HR.out.res.frozen 4
        have r_c5 : wr.cell? ⟨w.heap.size + 1, 5, none⟩ = some (.slice none 0 0) := (HR.out.res.cell 5).trans rfl
        have r_f5 := HR.out.res.frozen 5
        go_wp2_with fail
        have lt2 : w.heap.size + 1 < w.heap.size + 1 + 1 + 1 := by omega
        have ge2 : w.heap.size ≤ w.heap.size + 1 := by omega
        have QR : Blk (((((((wr.setCell ⟨w.heap.size + 1, 0, none⟩ (.int .i64 0)).setCell ⟨w.heap.size + 1, 1, none⟩ (.int .i64 cp)).setCell ⟨w.heap.size + 1, 2, none⟩ (.slice D1 l.length d1)).setCell ⟨w.heap.size + 1, 3, none⟩ (.slice none 0 0)).setCell ⟨w.heap.size + 1, 4, none⟩ (.int .i64 0)).setCell ⟨w.heap.size + 1, 5, none⟩ (.slice none 0 0))) (w.heap.size + 1) 26 #[.int .i64 0, .int .i64 cp, .slice D1 l.length d1, .slice none 0 0, .int .i64 0, .slice none 0 0] := ((((((HR.out.res.put 0 (.int .i64 0) rfl).put 1 (.int .i64 cp) rfl).put 2 (.slice D1 l.length d1) rfl).put 3 (.slice none 0 0) rfl).put 4 (.int .i64 0) rfl).put 5 (.slice none 0 0) rfl)
        have QO := Lib.hid ((((((HO.out.set (p := ⟨w.heap.size + 1, 0, none⟩) (by exact lt2) (.int .i64 0)).set (p := ⟨w.heap.size + 1, 1, none⟩) (by exact lt2) (.int .i64 cp)).set (p := ⟨w.heap.size + 1, 2, none⟩) (by exact lt2) (.slice D1 l.length d1)).set (p := ⟨w.heap.size + 1, 3, none⟩) (by exact lt2) (.slice none 0 0)).set (p := ⟨w.heap.size + 1, 4, none⟩) (by exact lt2) (.int .i64 0)).set (p := ⟨w.heap.size + 1, 5, none⟩) (by exact lt2) (.slice none 0 0))
        have QB : Below w.heap.size w (((((((wr.setCell ⟨w.heap.size + 1, 0, none⟩ (.int .i64 0)).setCell ⟨w.heap.size + 1, 1, none⟩ (.int .i64 cp)).setCell ⟨w.heap.size + 1, 2, none⟩ (.slice D1 l.length d1)).setCell ⟨w.heap.size + 1, 3, none⟩ (.slice none 0 0)).setCell ⟨w.heap.size + 1, 4, none⟩ (.int .i64 0)).setCell ⟨w.heap.size + 1, 5, none⟩ (.slice none 0 0))) := (bl_set (bl_set (bl_set (bl_set (bl_set (bl_set HR.out.b (p := ⟨w.heap.size + 1, 0, none⟩) (by exact ge2) (.int .i64 0)) (p := ⟨w.heap.size + 1, 1, none⟩) (by exact ge2) (.int .i64 cp)) (p := ⟨w.heap.size + 1, 2, none⟩) (by exact ge2) (.slice D1 l.length d1)) (p := ⟨w.heap.size + 1, 3, none⟩) (by exact ge2) (.slice none 0 0)) (p := ⟨w.heap.size + 1, 4, none⟩) (by exact ge2) (.int .i64 0)) (p := ⟨w.heap.size + 1, 5, none⟩) (by exact ge2) (.slice none 0 0))
        generalize ((((((wr.setCell ⟨w.heap.size + 1, 0, none⟩ (.int .i64 0)).setCell ⟨w.heap.size + 1, 1, none⟩ (.int .i64 cp)).setCell ⟨w.heap.size + 1, 2, none⟩ (.slice D1 l.length d1)).setCell ⟨w.heap.size + 1, 3, none⟩ (.slice none 0 0)).setCell ⟨w.heap.size + 1, 4, none⟩ (.int .i64 0)).setCell ⟨w.heap.size + 1, 5, none⟩ (.slice none 0 0)) = wz at QR QO QB ⊢
        have zz_z : w.heap.size + 1 < wz.heap.size := QR.lt
        have zz_c0 : wz.cell? ⟨w.heap.size + 1, 0, none⟩ = some (.int .i64 0) := (QR.cell 0).trans rfl
        have zz_f0 := QR.frozen 0
        have zz_c1 : wz.cell? ⟨w.heap.size + 1, 1, none⟩ = some (.int .i64 cp) := (QR.cell 1).trans rfl
        have zz_f1 := QR.frozen 1
        have zz_c2 : wz.cell? ⟨w.heap.size + 1, 2, none⟩ = some (.slice D1 l.length d1) := (QR.cell 2).trans rfl
        have zz_f2 := QR.frozen 2
        have zz_c3 : wz.cell? ⟨w.heap.size + 1, 3, none⟩ = some (.slice none 0 0) := (QR.cell 3).trans rfl
        have zz_f3 := QR.frozen 3
        have zz_c4 : wz.cell? ⟨w.heap.size + 1, 4, none⟩ = some (.int .i64 0) := (QR.cell 4).trans rfl
        have zz_f4 := QR.frozen 4
        have zz_c5 : wz.cell? ⟨w.heap.size + 1, 5, none⟩ = some (.slice none 0 0) := (QR.cell 5).trans rfl
        have zz_f5 := QR.frozen 5
        refine bodyPost_ret (v := .agg #[.int .i64 0, .int .i64 cp, .slice D1 l.length d1, .slice none 0 0, .int .i64 0, .slice none 0 0]) (by simp [results, Tryd.results7, go_sem, zz_z, zz_c0, zz_f0, zz_c1, zz_f1, zz_c2, zz_f2, zz_c3, zz_f3, zz_c4, zz_f4, zz_c5, zz_f5]) rfl ?_
        have HT : TameD ⟨0, cp, l, [], 0, []⟩ mo := Or.inl ⟨rfl, ccp, by have := HL.out.1; show l.length ≤ mo; omega, HL.out.2, rfl, rfl, rfl⟩
        exact ⟨⟨0, cp, l, [], 0, []⟩, D1, d1, none, 0, none, 0, rfl, HT, ⟨QO.out, ownR_nil _ _ _ _, ownS_nil _ _ _ _, tame_in HT⟩, QB⟩
  · by_cases k3 : K = 3
    · subst k3
      clear k0
      obtain ⟨m, M⟩ : ∃ m, (I.sets.take mo).length = m := ⟨_, rfl⟩
      have E1 : (if mo < I.sets.length then (mo : Int) else (I.sets.length : Int)) = (m : Int) := by rw [List.length_take] at M; split <;> omega
      have Bm : m ≤ mo ∧ m ≤ I.sets.length := by rw [List.length_take] at M; omega
      obtain ⟨s0, hs0⟩ : ∃ s0, (if (0 : Int) < I.size then I.size else 0) = s0 := ⟨_, rfl⟩
      have ss : 0 ≤ s0 := by split at hs0 <;> omega
      obtain ⟨sn, hsn⟩ : ∃ sn : Nat, Int.tmod s0 9 = (sn : Int) := ⟨(Int.tmod s0 9).toNat, by have := Int.tmod_nonneg (9 : Int) ss; omega⟩
      have sn8 : sn ≤ 8 := by have := Int.tmod_lt_of_pos s0 (show (0 : Int) < 9 by decide); omega
      have wz : IntKind.i64.wrap (sn : Int) = (sn : Int) := by rw [IntKind.wrap_i64]; omega
      clear M ss
      go_enter Tryd.func7, Tryd.ntmps7
      go_wp2_with fail
      have H0 := Lib.hid (show TmR (((w.alloc (.cells #[.int .i64 I.kind, .int .i64 I.cap, .slice A1 I.items.length c1, .slice A2 I.cost.length c2, .int .i64 I.size, .slice A3 I.sets.length c3] 26)).alloc (.cells #[.int .i64 0, .int .i64 0, .slice none 0 0, .slice none 0 0, .int .i64 0, .slice none 0 0] 26)).alloc (.cells #[.int .i64 3, .int .i64 0, .slice none 0 0, .slice none 0 0, .int .i64 (sn : Int), .slice none 0 0] 26)) w I A1 A2 A3 c1 c2 c3 3 0 (sn : Int) (.slice none 0 0) (.slice none 0 0) (.slice none 0 0) from
        ⟨((Blk.new _ _ _).alloc _).alloc _, (Blk.new' (by simp) _ _).alloc _, Blk.new' (by simp) _ _, bl_alloc (bl_alloc (bl_alloc (Below.refl _ _) _) _) _⟩)
      go_loopw [145] (fun vi wr => ∃ (i : Nat) (v3 : Value) (l : List (Int × List Int)), vi = .int .i64 i ∧ i ≤ m ∧ Hid (TmR wr w I A1 A2 A3 c1 c2 c3 3 0 (sn : Int) (.slice none 0 0) (.slice none 0 0) v3) ∧ Hid (OwnS wr (w.heap.size + 1 + 1 + 1) 61 3 v3 l) ∧ Hid (l.length = i ∧ ∀ p ∈ l, SetOK (sn : Int) p)) (fun vi _ => m - (intOf vi).toNat)
      case atStart => exact ⟨0, _, [], rfl, Nat.zero_le _, H0, Lib.hid (ownS_nil _ _ _ _), Lib.hid ⟨rfl, fun p hp => by simp at hp⟩⟩
      case round =>
        clear H0
        obtain ⟨i, v3, l, rfl, hi, HR, HO, HL⟩ := hrel
        generalize wr = wo at HR HO ⊢
        by_cases hlt : i < m
        · obtain ⟨p, hp⟩ : ∃ p, I.sets[i]? = some p := ⟨_, List.getElem?_eq_getElem (by omega)⟩
          obtain ⟨b, o, A', c', rfl, hbB, hc1, hc2, h4, h5, hrd⟩ := (HI.out.below HR.out.b).sets.get hp
          have HRD := Lib.hid hrd
          have hBw := HI.out.bd
          clear hrd hp
          obtain ⟨cx, hcx⟩ : ∃ cx, (if (0 : Int) < clampR p.1 then clampR p.1 else 0) = cx := ⟨_, rfl⟩
          have CX : Hid (ClI cx) := Lib.hid (by have a := clamp_in p.1; unfold ClI; split at hcx <;> omega)
          have i0 : (0 : Int) ≤ (i : Int) := by omega
          have i1 : (i : Int) < (m : Int) := by omega
          have ll : l.length = i := HL.out.1
          have hln : l.length ≤ 70 := by omega
          clear ll
          have hsz := HR.out.size
          have ax_z : w.heap.size < wo.heap.size := HR.out.par.lt
          have ax_c0 : wo.cell? ⟨w.heap.size, 0, none⟩ = some (.int .i64 I.kind) := (HR.out.par.cell 0).trans rfl
          have ax_f0 := HR.out.par.frozen 0
          have ax_c1 : wo.cell? ⟨w.heap.size, 1, none⟩ = some (.int .i64 I.cap) := (HR.out.par.cell 1).trans rfl
          have ax_f1 := HR.out.par.frozen 1
          have ax_c2 : wo.cell? ⟨w.heap.size, 2, none⟩ = some (.slice A1 I.items.length c1) := (HR.out.par.cell 2).trans rfl
          have ax_f2 := HR.out.par.frozen 2
          have ax_c3 : wo.cell? ⟨w.heap.size, 3, none⟩ = some (.slice A2 I.cost.length c2) := (HR.out.par.cell 3).trans rfl
          have ax_f3 := HR.out.par.frozen 3
          have ax_c4 : wo.cell? ⟨w.heap.size, 4, none⟩ = some (.int .i64 I.size) := (HR.out.par.cell 4).trans rfl
          have ax_f4 := HR.out.par.frozen 4
          have ax_c5 : wo.cell? ⟨w.heap.size, 5, none⟩ = some (.slice (some ⟨b, o, none⟩) I.sets.length c3) := (HR.out.par.cell 5).trans rfl
          have ax_f5 := HR.out.par.frozen 5
          have ao_z : w.heap.size + 1 + 1 < wo.heap.size := HR.out.out.lt
          have ao_c0 : wo.cell? ⟨w.heap.size + 1 + 1, 0, none⟩ = some (.int .i64 3) := (HR.out.out.cell 0).trans rfl
          have ao_f0 := HR.out.out.frozen 0
          have ao_c1 : wo.cell? ⟨w.heap.size + 1 + 1, 1, none⟩ = some (.int .i64 0) := (HR.out.out.cell 1).trans rfl
          have ao_f1 := HR.out.out.frozen 1
          have ao_c2 : wo.cell? ⟨w.heap.size + 1 + 1, 2, none⟩ = some (.slice none 0 0) := (HR.out.out.cell 2).trans rfl
          have ao_f2 := HR.out.out.frozen 2
          have ao_c3 : wo.cell? ⟨w.heap.size + 1 + 1, 3, none⟩ = some (.slice none 0 0) := (HR.out.out.cell 3).trans rfl
          have ao_f3 := HR.out.out.frozen 3
          have ao_c4 : wo.cell? ⟨w.heap.size + 1 + 1, 4, none⟩ = some (.int .i64 (sn : Int)) := (HR.out.out.cell 4).trans rfl
          have ao_f4 := HR.out.out.frozen 4
          have ao_c5 : wo.cell? ⟨w.heap.size + 1 + 1, 5, none⟩ = some (v3) := (HR.out.out.cell 5).trans rfl
          have ao_f5 := HR.out.out.frozen 5
          go_wp2_with fail
          have nb : Below wo.heap.size wo (wo.alloc (.cells #[.int .i64 p.1, .slice A' p.2.length c'] 61)) := bl_alloc (Below.refl _ _) _
          (with_reducible refine (clamp_any _ _).mono ?_); rintro e u1 ⟨rfl, hb1⟩
          have By : Blk u1 wo.heap.size 61 #[.int .i64 p.1, .slice A' p.2.length c'] := (Blk.new _ _ _).below hb1
          have nu : Below u1.heap.size u1 (u1.alloc (.cells #[.int .i64 cx, .slice none 0 0] 61)) := bl_alloc (Below.refl _ _) _
          have HA := (HR.out.below nb).below hb1
          have HU := Lib.hid (HA.below nu)
          have HB := Lib.hid (((HO.out.below nb).below hb1).below nu)
          have hs1 : wo.heap.size + 1 ≤ u1.heap.size := by have := hb1.size; simp at this; omega
          have S0 : SbR (u1.alloc (.cells #[.int .i64 cx, .slice none 0 0] 61)) wo u1.heap.size (u1.heap.size + 1) p.1 A' p.2.length c' cx (.slice none 0 0) [] := ⟨bl_step (bl_step nb hb1) nu, By.alloc _, Blk.new _ _ _, own_nil _ _ _ _, by omega, by omega, by simp⟩
          clear nb hc1 hc2 ax_z ax_c0 ax_f0 ax_c1 ax_f1 ax_c2 ax_f2 ax_c3 ax_f3 ax_c4 ax_f4 ax_c5 ax_f5 ao_z ao_c0 ao_f0 ao_c1 ao_f1 ao_c2 ao_f2 ao_c3 ao_f3 ao_c4 ao_f4 ao_c5 ao_f5
          have y_z : wo.heap.size < u1.heap.size := By.lt
          have y_c0 : u1.cell? ⟨wo.heap.size, 0, none⟩ = some (.int .i64 p.1) := (By.cell 0).trans rfl
          have y_f0 := By.frozen 0
          have y_c1 : u1.cell? ⟨wo.heap.size, 1, none⟩ = some (.slice A' p.2.length c') := (By.cell 1).trans rfl
          have y_f1 := By.frozen 1
          have ux_z : w.heap.size < (u1.alloc (.cells #[.int .i64 cx, .slice none 0 0] 61)).heap.size := HU.out.par.lt
          have ux_c0 : (u1.alloc (.cells #[.int .i64 cx, .slice none 0 0] 61)).cell? ⟨w.heap.size, 0, none⟩ = some (.int .i64 I.kind) := (HU.out.par.cell 0).trans rfl
          have ux_f0 := HU.out.par.frozen 0
          have ux_c1 : (u1.alloc (.cells #[.int .i64 cx, .slice none 0 0] 61)).cell? ⟨w.heap.size, 1, none⟩ = some (.int .i64 I.cap) := (HU.out.par.cell 1).trans rfl
          have ux_f1 := HU.out.par.frozen 1
          have ux_c2 : (u1.alloc (.cells #[.int .i64 cx, .slice none 0 0] 61)).cell? ⟨w.heap.size, 2, none⟩ = some (.slice A1 I.items.length c1) := (HU.out.par.cell 2).trans rfl
          have ux_f2 := HU.out.par.frozen 2
          have ux_c3 : (u1.alloc (.cells #[.int .i64 cx, .slice none 0 0] 61)).cell? ⟨w.heap.size, 3, none⟩ = some (.slice A2 I.cost.length c2) := (HU.out.par.cell 3).trans rfl
          have ux_f3 := HU.out.par.frozen 3
          have ux_c4 : (u1.alloc (.cells #[.int .i64 cx, .slice none 0 0] 61)).cell? ⟨w.heap.size, 4, none⟩ = some (.int .i64 I.size) := (HU.out.par.cell 4).trans rfl
          have ux_f4 := HU.out.par.frozen 4
          have ux_c5 : (u1.alloc (.cells #[.int .i64 cx, .slice none 0 0] 61)).cell? ⟨w.heap.size, 5, none⟩ = some (.slice (some ⟨b, o, none⟩) I.sets.length c3) := (HU.out.par.cell 5).trans rfl
          have ux_f5 := HU.out.par.frozen 5
          have uo_z : w.heap.size + 1 + 1 < (u1.alloc (.cells #[.int .i64 cx, .slice none 0 0] 61)).heap.size := HU.out.out.lt
          have uo_c0 : (u1.alloc (.cells #[.int .i64 cx, .slice none 0 0] 61)).cell? ⟨w.heap.size + 1 + 1, 0, none⟩ = some (.int .i64 3) := (HU.out.out.cell 0).trans rfl
          have uo_f0 := HU.out.out.frozen 0
          have uo_c1 : (u1.alloc (.cells #[.int .i64 cx, .slice none 0 0] 61)).cell? ⟨w.heap.size + 1 + 1, 1, none⟩ = some (.int .i64 0) := (HU.out.out.cell 1).trans rfl
          have uo_f1 := HU.out.out.frozen 1
          have uo_c2 : (u1.alloc (.cells #[.int .i64 cx, .slice none 0 0] 61)).cell? ⟨w.heap.size + 1 + 1, 2, none⟩ = some (.slice none 0 0) := (HU.out.out.cell 2).trans rfl
          have uo_f2 := HU.out.out.frozen 2
          have uo_c3 : (u1.alloc (.cells #[.int .i64 cx, .slice none 0 0] 61)).cell? ⟨w.heap.size + 1 + 1, 3, none⟩ = some (.slice none 0 0) := (HU.out.out.cell 3).trans rfl
          have uo_f3 := HU.out.out.frozen 3
          have uo_c4 : (u1.alloc (.cells #[.int .i64 cx, .slice none 0 0] 61)).cell? ⟨w.heap.size + 1 + 1, 4, none⟩ = some (.int .i64 (sn : Int)) := (HU.out.out.cell 4).trans rfl
          have uo_f4 := HU.out.out.frozen 4
          have uo_c5 : (u1.alloc (.cells #[.int .i64 cx, .slice none 0 0] 61)).cell? ⟨w.heap.size + 1 + 1, 5, none⟩ = some (v3) := (HU.out.out.cell 5).trans rfl
          have uo_f5 := HU.out.out.frozen 5
          go_wp2_with fail
          have S1 := Lib.hid S0
          have gb : u1.heap.size < u1.heap.size + 1 := by omega
          clear S0 HA By nu y_z y_c0 y_f0 y_c1 y_f1 ux_z ux_c0 ux_f0 ux_c1 ux_f1 ux_c2 ux_f2 ux_c3 ux_f3 ux_c4 ux_f4 ux_c5 ux_f5 uo_z uo_c0 uo_f0 uo_c1 uo_f1 uo_c2 uo_f2 uo_c3 uo_f3 uo_c4 uo_f4 uo_c5 uo_f5
          generalize u1.alloc (.cells #[.int .i64 cx, .slice none 0 0] 61) = us at HU HB S1 ⊢
          clear hb1
          generalize hbq : u1.heap.size + 1 = bq at S1 gb ⊢
          generalize u1.heap.size = gs at S1 gb hs1 hbq ⊢
          go_loopw [157] (fun ve wr => ∃ (e : Nat) (v : Value) (es : List Int), ve = .int .i64 e ∧ e ≤ sn ∧ Hid (SbR wr wo gs bq p.1 A' p.2.length c' cx v es) ∧ Hid (risesB (-1) (sn : Int) es = true ∧ (∀ x ∈ es, x < (e : Int)) ∧ es.length ≤ e)) (fun ve _ => sn - (intOf ve).toNat)
          case atStart => exact ⟨0, _, [], rfl, Nat.zero_le _, S1, Lib.hid ⟨rfl, fun x hx => by simp at hx, Nat.le_refl _⟩⟩
          case round =>
            clear S1
            obtain ⟨e, v, es, rfl, he, HS, HE⟩ := hrel
            by_cases hes : e < sn
            · have e0 : (0 : Int) ≤ (e : Int) := by omega
              have e1 : (e : Int) < (sn : Int) := by omega
              obtain ⟨q, hq⟩ : ∃ q, (p.2.take 40).length = q := ⟨_, rfl⟩
              have Eq : (if (40 : Int) < (p.2.length : Int) then (40 : Int) else (p.2.length : Int)) = (q : Int) := by rw [List.length_take] at hq; split <;> omega
              have Bq : q ≤ 40 ∧ q ≤ p.2.length := by rw [List.length_take] at hq; omega
              clear hq
              have y_z : wo.heap.size < wr.heap.size := HS.out.y.lt
              have y_c0 : wr.cell? ⟨wo.heap.size, 0, none⟩ = some (.int .i64 p.1) := (HS.out.y.cell 0).trans rfl
              have y_f0 := HS.out.y.frozen 0
              have y_c1 : wr.cell? ⟨wo.heap.size, 1, none⟩ = some (.slice A' p.2.length c') := (HS.out.y.cell 1).trans rfl
              have y_f1 := HS.out.y.frozen 1
              go_wp2_with fail
              clear y_z y_c0 y_f0 y_c1 y_f1
              go_loopw [168] (fun vj wr => ∃ (j : Nat), vj = .int .i64 j ∧ j ≤ q ∧ Hid (SbR wr wo gs bq p.1 A' p.2.length c' cx v es)) (fun vj _ => q - (intOf vj).toNat)
              case atStart => exact ⟨0, rfl, Nat.zero_le _, HS⟩
              case round =>
                clear HS
                obtain ⟨j, rfl, hj, HS⟩ := hrel
                by_cases hjq : j < q
                · obtain ⟨z, hz⟩ : ∃ z, p.2[j]? = some z := ⟨_, List.getElem?_eq_getElem (by omega)⟩
                  obtain ⟨b2, o2, rfl, hb2, hcz⟩ := HRD.out.get hz
                  have hcz := (HS.out.bl.cell (p := ⟨b2, o2 + j, none⟩) (Nat.lt_of_lt_of_le hb2 (by have := HR.out.b.size; show B ≤ wo.heap.size; omega))).trans hcz
                  have j0 : (0 : Int) ≤ (j : Int) := by omega
                  have j1 : (j : Int) < (q : Int) := by omega
                  obtain ⟨z0, hz0⟩ : ∃ z0, (if (0 : Int) < z then z else 0) = z0 := ⟨_, rfl⟩
                  have zz : 0 ≤ z0 := by split at hz0 <;> omega
                  obtain ⟨zm, hzm⟩ : ∃ zm : Nat, Int.tmod z0 9 = (zm : Int) := ⟨(Int.tmod z0 9).toNat, by have := Int.tmod_nonneg (9 : Int) zz; omega⟩
                  have zm9 : zm < 9 := by have := Int.tmod_lt_of_pos z0 (show (0 : Int) < 9 by decide); omega
                  have wzm : IntKind.i64.wrap (zm : Int) = (zm : Int) := by rw [IntKind.wrap_i64]; omega
                  clear zz hz
                  by_cases hze : zm = e
                  · subst hze
                    have nb : Below wr.heap.size wr (wr.alloc (.cells #[.int .i64 (zm : Int)] 3)) := bl_alloc (Below.refl _ _) _
                    obtain ⟨D, d, X, ra, sX, HX⟩ := (HS.out.below nb).runE (Blk.new _ _ _) (by have := HE.out.2.2; omega) 54
                    clear nb
                    have HX := Lib.hid HX
                    have s_z : gs < wr.heap.size := HS.out.s.lt
                    have s_c0 : wr.cell? ⟨gs, 0, none⟩ = some (.int .i64 cx) := (HS.out.s.cell 0).trans rfl
                    have s_f0 := HS.out.s.frozen 0
                    have s_c1 : wr.cell? ⟨gs, 1, none⟩ = some (v) := (HS.out.s.cell 1).trans rfl
                    have s_f1 := HS.out.s.frozen 1
                    have t_z : gs < X.heap.size := sX.lt
                    have t_c0 : X.cell? ⟨gs, 0, none⟩ = some (.int .i64 cx) := (sX.cell 0).trans rfl
                    have t_f0 := sX.frozen 0
                    have t_c1 : X.cell? ⟨gs, 1, none⟩ = some (v) := (sX.cell 1).trans rfl
                    have t_f1 := sX.frozen 1
                    go_wp2_with (at_builtin; refine list_run rfl (.tmp 178) (.tmp 180) 54 rfl (by exact ra) ?_)
                    go_roundw
                    case rel => exact ⟨zm + 1, (.slice D (es.length + 1) d), es ++ [(zm : Int)], by go_num, by omega, HX, Lib.hid ⟨rises_snoc es (-1) sn zm HE.out.1 HE.out.2.1 (by omega) (by omega), fun x hx => by rcases List.mem_append.1 hx with h | h; have := HE.out.2.1 x h; omega; simp at h; omega, by have := HE.out.2.2; simp; omega⟩⟩
                    case measure => simp only [intOf]; omega
                  · have ez : ((zm : Int) == (e : Int)) = false := by simp; omega
                    go_wp2_with fail
                    go_roundw
                    case rel => exact ⟨j + 1, by go_num, by omega, HS⟩
                    case measure => simp only [intOf]; omega
                · obtain rfl : j = q := by omega
                  clear hjq hj
                  go_wp2_with fail
                  go_roundw
                  case rel => exact ⟨e + 1, v, es, by go_num, by omega, HS, Lib.hid ⟨HE.out.1, fun x hx => by have := HE.out.2.1 x hx; omega, by have := HE.out.2.2; omega⟩⟩
                  case measure => simp only [intOf]; omega
            · obtain rfl : sn = e := by omega
              clear hes he
              obtain ⟨V, dv, e2⟩ : ∃ V dv, v = .slice V es.length dv := by obtain ⟨V, dv, e, _⟩ := own_slice HS.out.row; exact ⟨V, dv, e⟩
              subst e2
              have HQ := Lib.hid (HR.out.below HS.out.bl)
              have n1 := HS.out.n1
              have n2 := HS.out.n2
              have nb : Below wr.heap.size wr (wr.alloc (.cells #[.int .i64 cx, .slice V es.length dv] 61)) := bl_alloc (Below.refl _ _) _
              obtain ⟨D, d, X, ra, HA, HOA⟩ := TmR.runS (HQ.out.below nb) ((HO.out.below HS.out.bl).below nb) (t := _) (r := es) (own_below (own_more (base' := w.heap.size + 1 + 1 + 1) HS.out.row (by omega)) nb) (Blk.new _ _ _) hln 24
              clear nb
              have qx_z : w.heap.size < wr.heap.size := HQ.out.par.lt
              have qx_c0 : wr.cell? ⟨w.heap.size, 0, none⟩ = some (.int .i64 I.kind) := (HQ.out.par.cell 0).trans rfl
              have qx_f0 := HQ.out.par.frozen 0
              have qx_c1 : wr.cell? ⟨w.heap.size, 1, none⟩ = some (.int .i64 I.cap) := (HQ.out.par.cell 1).trans rfl
              have qx_f1 := HQ.out.par.frozen 1
              have qx_c2 : wr.cell? ⟨w.heap.size, 2, none⟩ = some (.slice A1 I.items.length c1) := (HQ.out.par.cell 2).trans rfl
              have qx_f2 := HQ.out.par.frozen 2
              have qx_c3 : wr.cell? ⟨w.heap.size, 3, none⟩ = some (.slice A2 I.cost.length c2) := (HQ.out.par.cell 3).trans rfl
              have qx_f3 := HQ.out.par.frozen 3
              have qx_c4 : wr.cell? ⟨w.heap.size, 4, none⟩ = some (.int .i64 I.size) := (HQ.out.par.cell 4).trans rfl
              have qx_f4 := HQ.out.par.frozen 4
              have qx_c5 : wr.cell? ⟨w.heap.size, 5, none⟩ = some (.slice (some ⟨b, o, none⟩) I.sets.length c3) := (HQ.out.par.cell 5).trans rfl
              have qx_f5 := HQ.out.par.frozen 5
              have qo_z : w.heap.size + 1 + 1 < wr.heap.size := HQ.out.out.lt
              have qo_c0 : wr.cell? ⟨w.heap.size + 1 + 1, 0, none⟩ = some (.int .i64 3) := (HQ.out.out.cell 0).trans rfl
              have qo_f0 := HQ.out.out.frozen 0
              have qo_c1 : wr.cell? ⟨w.heap.size + 1 + 1, 1, none⟩ = some (.int .i64 0) := (HQ.out.out.cell 1).trans rfl
              have qo_f1 := HQ.out.out.frozen 1
              have qo_c2 : wr.cell? ⟨w.heap.size + 1 + 1, 2, none⟩ = some (.slice none 0 0) := (HQ.out.out.cell 2).trans rfl
              have qo_f2 := HQ.out.out.frozen 2
              have qo_c3 : wr.cell? ⟨w.heap.size + 1 + 1, 3, none⟩ = some (.slice none 0 0) := (HQ.out.out.cell 3).trans rfl
              have qo_f3 := HQ.out.out.frozen 3
              have qo_c4 : wr.cell? ⟨w.heap.size + 1 + 1, 4, none⟩ = some (.int .i64 (sn : Int)) := (HQ.out.out.cell 4).trans rfl
              have qo_f4 := HQ.out.out.frozen 4
              have qo_c5 : wr.cell? ⟨w.heap.size + 1 + 1, 5, none⟩ = some (v3) := (HQ.out.out.cell 5).trans rfl
              have qo_f5 := HQ.out.out.frozen 5
              have s_z : gs < wr.heap.size := HS.out.s.lt
              have s_c0 : wr.cell? ⟨gs, 0, none⟩ = some (.int .i64 cx) := (HS.out.s.cell 0).trans rfl
              have s_f0 := HS.out.s.frozen 0
              have s_c1 : wr.cell? ⟨gs, 1, none⟩ = some (.slice V es.length dv) := (HS.out.s.cell 1).trans rfl
              have s_f1 := HS.out.s.frozen 1
              have h_z : w.heap.size + 1 + 1 < X.heap.size := HA.out.lt
              have h_c0 : X.cell? ⟨w.heap.size + 1 + 1, 0, none⟩ = some (.int .i64 3) := (HA.out.cell 0).trans rfl
              have h_f0 := HA.out.frozen 0
              have h_c1 : X.cell? ⟨w.heap.size + 1 + 1, 1, none⟩ = some (.int .i64 0) := (HA.out.cell 1).trans rfl
              have h_f1 := HA.out.frozen 1
              have h_c2 : X.cell? ⟨w.heap.size + 1 + 1, 2, none⟩ = some (.slice none 0 0) := (HA.out.cell 2).trans rfl
              have h_f2 := HA.out.frozen 2
              have h_c3 : X.cell? ⟨w.heap.size + 1 + 1, 3, none⟩ = some (.slice none 0 0) := (HA.out.cell 3).trans rfl
              have h_f3 := HA.out.frozen 3
              have h_c4 : X.cell? ⟨w.heap.size + 1 + 1, 4, none⟩ = some (.int .i64 (sn : Int)) := (HA.out.cell 4).trans rfl
              have h_f4 := HA.out.frozen 4
              have h_c5 : X.cell? ⟨w.heap.size + 1 + 1, 5, none⟩ = some (v3) := (HA.out.cell 5).trans rfl
              have h_f5 := HA.out.frozen 5
              go_wp2_with (at_builtin; refine list_run rfl (.tmp 186) (.tmp 188) 24 rfl (by exact ra) ?_)
              go_roundw
              case rel => exact ⟨i + 1, (.slice D (l.length + 1) d), l ++ [(cx, es)], by go_num, by omega, Lib.hid (HA.put 5 (.slice D (l.length + 1) d) rfl), Lib.hid (HOA.set (by simp) _), Lib.hid ⟨by simp [HL.out.1], fun q hq => by rcases List.mem_append.1 hq with h | h; exact HL.out.2 q h; simp at h; subst h; exact ⟨CX.out, HE.out.1, by have := HE.out.2.2; show es.length ≤ 8; omega⟩⟩⟩
              case measure => simp only [intOf]; omega
        · obtain rfl : i = m := by omega
          clear hlt hi
          obtain ⟨D3, d3, e2⟩ : ∃ D d, v3 = .slice D l.length d := by obtain ⟨_, _, h, _⟩ := HO.out; obtain ⟨D, d, e, _⟩ := own_slice h; exact ⟨D, d, e⟩
          subst e2
          have ex_z : w.heap.size < wo.heap.size := HR.out.par.lt
          have ex_c0 : wo.cell? ⟨w.heap.size, 0, none⟩ = some (.int .i64 I.kind) := (HR.out.par.cell 0).trans rfl
          have ex_f0 := HR.out.par.frozen 0
          have ex_c1 : wo.cell? ⟨w.heap.size, 1, none⟩ = some (.int .i64 I.cap) := (HR.out.par.cell 1).trans rfl
          have ex_f1 := HR.out.par.frozen 1
          have ex_c2 : wo.cell? ⟨w.heap.size, 2, none⟩ = some (.slice A1 I.items.length c1) := (HR.out.par.cell 2).trans rfl
          have ex_f2 := HR.out.par.frozen 2
          have ex_c3 : wo.cell? ⟨w.heap.size, 3, none⟩ = some (.slice A2 I.cost.length c2) := (HR.out.par.cell 3).trans rfl
          have ex_f3 := HR.out.par.frozen 3
          have ex_c4 : wo.cell? ⟨w.heap.size, 4, none⟩ = some (.int .i64 I.size) := (HR.out.par.cell 4).trans rfl
          have ex_f4 := HR.out.par.frozen 4
          have ex_c5 : wo.cell? ⟨w.heap.size, 5, none⟩ = some (.slice A3 I.sets.length c3) := (HR.out.par.cell 5).trans rfl
          have ex_f5 := HR.out.par.frozen 5
          have eo_z : w.heap.size + 1 + 1 < wo.heap.size := HR.out.out.lt
          have eo_c0 : wo.cell? ⟨w.heap.size + 1 + 1, 0, none⟩ = some (.int .i64 3) := (HR.out.out.cell 0).trans rfl
          have eo_f0 := HR.out.out.frozen 0
          have eo_c1 : wo.cell? ⟨w.heap.size + 1 + 1, 1, none⟩ = some (.int .i64 0) := (HR.out.out.cell 1).trans rfl
          have eo_f1 := HR.out.out.frozen 1
          have eo_c2 : wo.cell? ⟨w.heap.size + 1 + 1, 2, none⟩ = some (.slice none 0 0) := (HR.out.out.cell 2).trans rfl
          have eo_f2 := HR.out.out.frozen 2
          have eo_c3 : wo.cell? ⟨w.heap.size + 1 + 1, 3, none⟩ = some (.slice none 0 0) := (HR.out.out.cell 3).trans rfl
          have eo_f3 := HR.out.out.frozen 3
          have eo_c4 : wo.cell? ⟨w.heap.size + 1 + 1, 4, none⟩ = some (.int .i64 (sn : Int)) := (HR.out.out.cell 4).trans rfl
          have eo_f4 := HR.out.out.frozen 4
          have eo_c5 : wo.cell? ⟨w.heap.size + 1 + 1, 5, none⟩ = some (.slice D3 l.length d3) := (HR.out.out.cell 5).trans rfl
          have eo_f5 := HR.out.out.frozen 5
          have r_z : w.heap.size + 1 < wo.heap.size := HR.out.res.lt
          have r_c0 : wo.cell? ⟨w.heap.size + 1, 0, none⟩ = some (.int .i64 0) := (HR.out.res.cell 0).trans rfl
          have r_f0 := HR.out.res.frozen 0
          have r_c1 : wo.cell? ⟨w.heap.size + 1, 1, none⟩ = some (.int .i64 0) := (HR.out.res.cell 1).trans rfl
          have r_f1 := HR.out.res.frozen 1
          have r_c2 : wo.cell? ⟨w.heap.size + 1, 2, none⟩ = some (.slice none 0 0) := (HR.out.res.cell 2).trans rfl
          have r_f2 := HR.out.res.frozen 2
          have r_c3 : wo.cell? ⟨w.heap.size + 1, 3, none⟩ = some (.slice none 0 0) := (HR.out.res.cell 3).trans rfl
          have r_f3 := HR.out.res.frozen 3
          have r_c4 : wo.cell? ⟨w.heap.size + 1, 4, none⟩ = some (.int .i64 0) := (HR.out.res.cell 4).trans rfl
          have r_f4 := HR.out.res.frozen 4
          have r_c5 : wo.cell? ⟨w.heap.size + 1, 5, none⟩ = some (.slice none 0 0) := (HR.out.res.cell 5).trans rfl
          have r_f5 := HR.out.res.frozen 5
          go_wp2_with fail
          have lt2 : w.heap.size + 1 < w.heap.size + 1 + 1 + 1 := by omega
          have ge2 : w.heap.size ≤ w.heap.size + 1 := by omega
          have QR : Blk (((((((wo.setCell ⟨w.heap.size + 1, 0, none⟩ (.int .i64 3)).setCell ⟨w.heap.size + 1, 1, none⟩ (.int .i64 0)).setCell ⟨w.heap.size + 1, 2, none⟩ (.slice none 0 0)).setCell ⟨w.heap.size + 1, 3, none⟩ (.slice none 0 0)).setCell ⟨w.heap.size + 1, 4, none⟩ (.int .i64 (sn : Int))).setCell ⟨w.heap.size + 1, 5, none⟩ (.slice D3 l.length d3))) (w.heap.size + 1) 26 #[.int .i64 3, .int .i64 0, .slice none 0 0, .slice none 0 0, .int .i64 (sn : Int), .slice D3 l.length d3] := ((((((HR.out.res.put 0 (.int .i64 3) rfl).put 1 (.int .i64 0) rfl).put 2 (.slice none 0 0) rfl).put 3 (.slice none 0 0) rfl).put 4 (.int .i64 (sn : Int)) rfl).put 5 (.slice D3 l.length d3) rfl)
          have QO := Lib.hid ((((((HO.out.set (p := ⟨w.heap.size + 1, 0, none⟩) (by exact lt2) (.int .i64 3)).set (p := ⟨w.heap.size + 1, 1, none⟩) (by exact lt2) (.int .i64 0)).set (p := ⟨w.heap.size + 1, 2, none⟩) (by exact lt2) (.slice none 0 0)).set (p := ⟨w.heap.size + 1, 3, none⟩) (by exact lt2) (.slice none 0 0)).set (p := ⟨w.heap.size + 1, 4, none⟩) (by exact lt2) (.int .i64 (sn : Int))).set (p := ⟨w.heap.size + 1, 5, none⟩) (by exact lt2) (.slice D3 l.length d3))
          have QB : Below w.heap.size w (((((((wo.setCell ⟨w.heap.size + 1, 0, none⟩ (.int .i64 3)).setCell ⟨w.heap.size + 1, 1, none⟩ (.int .i64 0)).setCell ⟨w.heap.size + 1, 2, none⟩ (.slice none 0 0)).setCell ⟨w.heap.size + 1, 3, none⟩ (.slice none 0 0)).setCell ⟨w.heap.size + 1, 4, none⟩ (.int .i64 (sn : Int))).setCell ⟨w.heap.size + 1, 5, none⟩ (.slice D3 l.length d3))) := (bl_set (bl_set (bl_set (bl_set (bl_set (bl_set HR.out.b (p := ⟨w.heap.size + 1, 0, none⟩) (by exact ge2) (.int .i64 3)) (p := ⟨w.heap.size + 1, 1, none⟩) (by exact ge2) (.int .i64 0)) (p := ⟨w.heap.size + 1, 2, none⟩) (by exact ge2) (.slice none 0 0)) (p := ⟨w.heap.size + 1, 3, none⟩) (by exact ge2) (.slice none 0 0)) (p := ⟨w.heap.size + 1, 4, none⟩) (by exact ge2) (.int .i64 (sn : Int))) (p := ⟨w.heap.size + 1, 5, none⟩) (by exact ge2) (.slice D3 l.length d3))
          generalize ((((((wo.setCell ⟨w.heap.size + 1, 0, none⟩ (.int .i64 3)).setCell ⟨w.heap.size + 1, 1, none⟩ (.int .i64 0)).setCell ⟨w.heap.size + 1, 2, none⟩ (.slice none 0 0)).setCell ⟨w.heap.size + 1, 3, none⟩ (.slice none 0 0)).setCell ⟨w.heap.size + 1, 4, none⟩ (.int .i64 (sn : Int))).setCell ⟨w.heap.size + 1, 5, none⟩ (.slice D3 l.length d3)) = wz at QR QO QB ⊢
          have zz_z : w.heap.size + 1 < wz.heap.size := QR.lt
          have zz_c0 : wz.cell? ⟨w.heap.size + 1, 0, none⟩ = some (.int .i64 3) := (QR.cell 0).trans rfl
          have zz_f0 := QR.frozen 0
          have zz_c1 : wz.cell? ⟨w.heap.size + 1, 1, none⟩ = some (.int .i64 0) := (QR.cell 1).trans rfl
          have zz_f1 := QR.frozen 1
          have zz_c2 : wz.cell? ⟨w.heap.size + 1, 2, none⟩ = some (.slice none 0 0) := (QR.cell 2).trans rfl
          have zz_f2 := QR.frozen 2
          have zz_c3 : wz.cell? ⟨w.heap.size + 1, 3, none⟩ = some (.slice none 0 0) := (QR.cell 3).trans rfl
          have zz_f3 := QR.frozen 3
          have zz_c4 : wz.cell? ⟨w.heap.size + 1, 4, none⟩ = some (.int .i64 (sn : Int)) := (QR.cell 4).trans rfl
          have zz_f4 := QR.frozen 4
          have zz_c5 : wz.cell? ⟨w.heap.size + 1, 5, none⟩ = some (.slice D3 l.length d3) := (QR.cell 5).trans rfl
          have zz_f5 := QR.frozen 5
          refine bodyPost_ret (v := .agg #[.int .i64 3, .int .i64 0, .slice none 0 0, .slice none 0 0, .int .i64 (sn : Int), .slice D3 l.length d3]) (by simp [results, Tryd.results7, go_sem, zz_z, zz_c0, zz_f0, zz_c1, zz_f1, zz_c2, zz_f2, zz_c3, zz_f3, zz_c4, zz_f4, zz_c5, zz_f5]) rfl ?_
          have HT : TameD ⟨3, 0, [], [], (sn : Int), l⟩ mo := Or.inr (Or.inl ⟨rfl, ⟨by show (0 : Int) ≤ (sn : Int); omega, by show (sn : Int) ≤ 8; omega⟩, rfl, rfl, rfl, by show l.length ≤ mo; rw [HL.out.1]; exact Bm.1, HL.out.2⟩)
          exact ⟨⟨3, 0, [], [], (sn : Int), l⟩, none, 0, none, 0, D3, d3, rfl, HT, ⟨own_nil _ _ _ _, ownR_nil _ _ _ _, QO.out, tame_in HT⟩, QB⟩
    · have kb0 : (K == 0) = false := by simp; exact k0
      have kb3 : (K == 3) = false := by simp; exact k3
      obtain ⟨q, hq⟩ : ∃ q : Int, (if (mo : Int) - 1 < (I.cost.length : Int) then (mo : Int) - 1 else (I.cost.length : Int)) = q := ⟨_, rfl⟩
      obtain ⟨n, hn⟩ : ∃ n : Nat, (if (1 : Int) < q then q else 1) = (n : Int) := ⟨(if (1 : Int) < q then q else 1).toNat, by split <;> omega⟩
      have Bn : 1 ≤ n ∧ (n ≤ 1 ∨ n < mo) ∧ n ≤ 40 := by split at hq <;> split at hn <;> omega
      go_enter Tryd.func7, Tryd.ntmps7
      go_wp2_with fail
      have H0 : Hid (TmR (((w.alloc (.cells #[.int .i64 I.kind, .int .i64 I.cap, .slice A1 I.items.length c1, .slice A2 I.cost.length c2, .int .i64 I.size, .slice A3 I.sets.length c3] 26)).alloc (.cells #[.int .i64 0, .int .i64 0, .slice none 0 0, .slice none 0 0, .int .i64 0, .slice none 0 0] 26)).alloc (.cells #[.int .i64 K, .int .i64 0, .slice none 0 0, .slice none 0 0, .int .i64 0, .slice none 0 0] 26)) w I A1 A2 A3 c1 c2 c3 K 0 0 (.slice none 0 0) (.slice none 0 0) (.slice none 0 0)) := Lib.hid
        ⟨((Blk.new _ _ _).alloc _).alloc _, (Blk.new' (by simp) _ _).alloc _, Blk.new' (by simp) _ _, bl_alloc (bl_alloc (bl_alloc (Below.refl _ _) _) _) _⟩
      go_loopw [35] (fun vi wr => ∃ (i : Nat) (v2 : Value) (rows : List (List Int)), vi = .int .i64 i ∧ i ≤ n ∧ Hid (TmR wr w I A1 A2 A3 c1 c2 c3 K 0 0 (.slice none 0 0) v2 (.slice none 0 0)) ∧ Hid (OwnR wr (w.heap.size + 1 + 1 + 1) 53 2 v2 rows) ∧ Hid (rows.length = i ∧ RowsOK K n rows)) (fun vi _ => n - (intOf vi).toNat)
      case atStart => exact ⟨0, _, [], rfl, Nat.zero_le _, H0, Lib.hid (ownR_nil _ _ _ _), Lib.hid ⟨rfl, fun i r h => by simp at h⟩⟩
      case round =>
        clear H0
        obtain ⟨i, v2, rows, rfl, hi, HR, HO, HL⟩ := hrel
        generalize wr = wo at HR HO ⊢
        by_cases hlt : i < n
        · have i0 : (0 : Int) ≤ (i : Int) := by omega
          have i1 : (i : Int) < (n : Int) := by omega
          have rl : rows.length = i := HL.out.1
          have hln : rows.length ≤ 70 := by omega
          have hsz := HR.out.size
          have hn70 : n ≤ 70 := by omega
          clear rl
          go_wp2_with (refine make_row rfl (.tmp 38) rfl rfl hn70 ?_; intro wm hrow hbm)
          go_loopw [41] (fun vj wr => ∃ (j : Nat) (zs : List Int), vj = .int .i64 j ∧ j ≤ n ∧ Hid (Below wo.heap.size wo wr) ∧ Hid (wr.ownsRow wo.heap.size 2 1 (.slice (some ⟨wo.heap.size, 0, none⟩) n n) n (zs.map (Value.int .i64))) ∧ Hid (RowOK K n i zs)) (fun vj _ => n - (intOf vj).toNat)
          case atStart => exact ⟨0, List.replicate n 0, rfl, Nat.zero_le _, Lib.hid hbm, Lib.hid hrow, Lib.hid (RowOK.zero K n i)⟩
          case round =>
            clear hrow hbm
            obtain ⟨j, zs, rfl, hj, HB, HW, HZ⟩ := hrel
            have HQ := Lib.hid (HR.out.below HB.out)
            by_cases hjn : j < n
            · have j0 : (0 : Int) ≤ (j : Int) := by omega
              have j1 : (j : Int) < (n : Int) := by omega
              by_cases hic : i < I.cost.length
              · obtain ⟨r, hr⟩ : ∃ r, I.cost[i]? = some r := ⟨_, List.getElem?_eq_getElem hic⟩
                obtain ⟨b, o, A', c', rfl, hbB, hc, h4, h5, h6⟩ := (HI.out.below HQ.out.b).cost.get hr
                have ic1 : (i : Int) < (I.cost.length : Int) := by omega
                by_cases hjr : j < r.length
                · obtain ⟨z, hz⟩ : ∃ z, r[j]? = some z := ⟨_, List.getElem?_eq_getElem hjr⟩
                  obtain ⟨b2, o2, rfl, hb2, hcz⟩ := h6.get hz
                  have jr1 : (j : Int) < (r.length : Int) := by omega
                  clear hr hz h6
                  by_cases hk2 : K = 2
                  · by_cases hij : i = j
                    · subst hk2
                      have hji : j = i := hij.symm
                      clear hij
                      subst hji
                      have fx_z : w.heap.size < wr.heap.size := HQ.out.par.lt
                      have fx_c0 : wr.cell? ⟨w.heap.size, 0, none⟩ = some (.int .i64 I.kind) := (HQ.out.par.cell 0).trans rfl
                      have fx_f0 := HQ.out.par.frozen 0
                      have fx_c1 : wr.cell? ⟨w.heap.size, 1, none⟩ = some (.int .i64 I.cap) := (HQ.out.par.cell 1).trans rfl
                      have fx_f1 := HQ.out.par.frozen 1
                      have fx_c2 : wr.cell? ⟨w.heap.size, 2, none⟩ = some (.slice A1 I.items.length c1) := (HQ.out.par.cell 2).trans rfl
                      have fx_f2 := HQ.out.par.frozen 2
                      have fx_c3 : wr.cell? ⟨w.heap.size, 3, none⟩ = some (.slice (some ⟨b, o, none⟩) I.cost.length c2) := (HQ.out.par.cell 3).trans rfl
                      have fx_f3 := HQ.out.par.frozen 3
                      have fx_c4 : wr.cell? ⟨w.heap.size, 4, none⟩ = some (.int .i64 I.size) := (HQ.out.par.cell 4).trans rfl
                      have fx_f4 := HQ.out.par.frozen 4
                      have fx_c5 : wr.cell? ⟨w.heap.size, 5, none⟩ = some (.slice A3 I.sets.length c3) := (HQ.out.par.cell 5).trans rfl
                      have fx_f5 := HQ.out.par.frozen 5
                      have fo_z : w.heap.size + 1 + 1 < wr.heap.size := HQ.out.out.lt
                      have fo_c0 : wr.cell? ⟨w.heap.size + 1 + 1, 0, none⟩ = some (.int .i64 2) := (HQ.out.out.cell 0).trans rfl
                      have fo_f0 := HQ.out.out.frozen 0
                      have fo_c1 : wr.cell? ⟨w.heap.size + 1 + 1, 1, none⟩ = some (.int .i64 0) := (HQ.out.out.cell 1).trans rfl
                      have fo_f1 := HQ.out.out.frozen 1
                      have fo_c2 : wr.cell? ⟨w.heap.size + 1 + 1, 2, none⟩ = some (.slice none 0 0) := (HQ.out.out.cell 2).trans rfl
                      have fo_f2 := HQ.out.out.frozen 2
                      have fo_c3 : wr.cell? ⟨w.heap.size + 1 + 1, 3, none⟩ = some (v2) := (HQ.out.out.cell 3).trans rfl
                      have fo_f3 := HQ.out.out.frozen 3
                      have fo_c4 : wr.cell? ⟨w.heap.size + 1 + 1, 4, none⟩ = some (.int .i64 0) := (HQ.out.out.cell 4).trans rfl
                      have fo_f4 := HQ.out.out.frozen 4
                      have fo_c5 : wr.cell? ⟨w.heap.size + 1 + 1, 5, none⟩ = some (.slice none 0 0) := (HQ.out.out.cell 5).trans rfl
                      have fo_f5 := HQ.out.out.frozen 5
                      go_wp2_with fail
                      go_roundw
                      case rel => exact ⟨j + 1, zs, by go_num, by omega, HB, HW, HZ⟩
                      case measure => simp only [intOf]; omega
                    · have eij : ((i : Int) == (j : Int)) = false := by simp; omega
                      have hset : Hid (K = 2 → i ≠ j) := Lib.hid (fun _ => hij)
                      subst hk2
                      have fx_z : w.heap.size < wr.heap.size := HQ.out.par.lt
                      have fx_c0 : wr.cell? ⟨w.heap.size, 0, none⟩ = some (.int .i64 I.kind) := (HQ.out.par.cell 0).trans rfl
                      have fx_f0 := HQ.out.par.frozen 0
                      have fx_c1 : wr.cell? ⟨w.heap.size, 1, none⟩ = some (.int .i64 I.cap) := (HQ.out.par.cell 1).trans rfl
                      have fx_f1 := HQ.out.par.frozen 1
                      have fx_c2 : wr.cell? ⟨w.heap.size, 2, none⟩ = some (.slice A1 I.items.length c1) := (HQ.out.par.cell 2).trans rfl
                      have fx_f2 := HQ.out.par.frozen 2
                      have fx_c3 : wr.cell? ⟨w.heap.size, 3, none⟩ = some (.slice (some ⟨b, o, none⟩) I.cost.length c2) := (HQ.out.par.cell 3).trans rfl
                      have fx_f3 := HQ.out.par.frozen 3
                      have fx_c4 : wr.cell? ⟨w.heap.size, 4, none⟩ = some (.int .i64 I.size) := (HQ.out.par.cell 4).trans rfl
                      have fx_f4 := HQ.out.par.frozen 4
                      have fx_c5 : wr.cell? ⟨w.heap.size, 5, none⟩ = some (.slice A3 I.sets.length c3) := (HQ.out.par.cell 5).trans rfl
                      have fx_f5 := HQ.out.par.frozen 5
                      have fo_z : w.heap.size + 1 + 1 < wr.heap.size := HQ.out.out.lt
                      have fo_c0 : wr.cell? ⟨w.heap.size + 1 + 1, 0, none⟩ = some (.int .i64 2) := (HQ.out.out.cell 0).trans rfl
                      have fo_f0 := HQ.out.out.frozen 0
                      have fo_c1 : wr.cell? ⟨w.heap.size + 1 + 1, 1, none⟩ = some (.int .i64 0) := (HQ.out.out.cell 1).trans rfl
                      have fo_f1 := HQ.out.out.frozen 1
                      have fo_c2 : wr.cell? ⟨w.heap.size + 1 + 1, 2, none⟩ = some (.slice none 0 0) := (HQ.out.out.cell 2).trans rfl
                      have fo_f2 := HQ.out.out.frozen 2
                      have fo_c3 : wr.cell? ⟨w.heap.size + 1 + 1, 3, none⟩ = some (v2) := (HQ.out.out.cell 3).trans rfl
                      have fo_f3 := HQ.out.out.frozen 3
                      have fo_c4 : wr.cell? ⟨w.heap.size + 1 + 1, 4, none⟩ = some (.int .i64 0) := (HQ.out.out.cell 4).trans rfl
                      have fo_f4 := HQ.out.out.frozen 4
                      have fo_c5 : wr.cell? ⟨w.heap.size + 1 + 1, 5, none⟩ = some (.slice none 0 0) := (HQ.out.out.cell 5).trans rfl
                      have fo_f5 := HQ.out.out.frozen 5
                      go_wp2_with fail
                      (with_reducible refine (clamp_any _ _).mono ?_); rintro e u1 ⟨rfl, hb1⟩
                      have HWu := own_below HW.out hb1
                      have zl : zs.length = n := HZ.out.1
                      obtain ⟨g, eg, _, _, hcu, hfu⟩ := own_lt HWu (by omega)
                      simp at eg
                      subst eg
                      obtain ⟨zj, hzj⟩ : ∃ zj, zs[j]? = some zj := ⟨_, List.getElem?_eq_getElem (by omega)⟩
                      have hcj := hcu j (.int .i64 zj) (by rw [List.getElem?_map, hzj]; rfl)
                      have hfj := hfu j
                      have HS := Lib.hid (own_store HWu j (by omega) (.int .i64 (clampR z)))
                      clear hcu hfu zl hzj HWu
                      go_wp2_with fail
                      go_roundw
                      case rel => exact ⟨j + 1, zs.set j (clampR z), by go_num, by omega, Lib.hid (bl_set (bl_step HB.out hb1) (p := ⟨wo.heap.size, j, none⟩) (Nat.le_refl _) _), Lib.hid (by rw [List.map_set]; exact HS.out), Lib.hid (HZ.out.set (clamp_in z) (fun h => by first | exact hset.out h | exact hset.out trivial))⟩
                      case measure => simp only [intOf]; omega
                  · have kb2 : (K == 2) = false := by simp; exact hk2
                    have hset : Hid (K = 2 → i ≠ j) := Lib.hid (fun h => absurd h hk2)
                    have fx_z : w.heap.size < wr.heap.size := HQ.out.par.lt
                    have fx_c0 : wr.cell? ⟨w.heap.size, 0, none⟩ = some (.int .i64 I.kind) := (HQ.out.par.cell 0).trans rfl
                    have fx_f0 := HQ.out.par.frozen 0
                    have fx_c1 : wr.cell? ⟨w.heap.size, 1, none⟩ = some (.int .i64 I.cap) := (HQ.out.par.cell 1).trans rfl
                    have fx_f1 := HQ.out.par.frozen 1
                    have fx_c2 : wr.cell? ⟨w.heap.size, 2, none⟩ = some (.slice A1 I.items.length c1) := (HQ.out.par.cell 2).trans rfl
                    have fx_f2 := HQ.out.par.frozen 2
                    have fx_c3 : wr.cell? ⟨w.heap.size, 3, none⟩ = some (.slice (some ⟨b, o, none⟩) I.cost.length c2) := (HQ.out.par.cell 3).trans rfl
                    have fx_f3 := HQ.out.par.frozen 3
                    have fx_c4 : wr.cell? ⟨w.heap.size, 4, none⟩ = some (.int .i64 I.size) := (HQ.out.par.cell 4).trans rfl
                    have fx_f4 := HQ.out.par.frozen 4
                    have fx_c5 : wr.cell? ⟨w.heap.size, 5, none⟩ = some (.slice A3 I.sets.length c3) := (HQ.out.par.cell 5).trans rfl
                    have fx_f5 := HQ.out.par.frozen 5
                    have fo_z : w.heap.size + 1 + 1 < wr.heap.size := HQ.out.out.lt
                    have fo_c0 : wr.cell? ⟨w.heap.size + 1 + 1, 0, none⟩ = some (.int .i64 K) := (HQ.out.out.cell 0).trans rfl
                    have fo_f0 := HQ.out.out.frozen 0
                    have fo_c1 : wr.cell? ⟨w.heap.size + 1 + 1, 1, none⟩ = some (.int .i64 0) := (HQ.out.out.cell 1).trans rfl
                    have fo_f1 := HQ.out.out.frozen 1
                    have fo_c2 : wr.cell? ⟨w.heap.size + 1 + 1, 2, none⟩ = some (.slice none 0 0) := (HQ.out.out.cell 2).trans rfl
                    have fo_f2 := HQ.out.out.frozen 2
                    have fo_c3 : wr.cell? ⟨w.heap.size + 1 + 1, 3, none⟩ = some (v2) := (HQ.out.out.cell 3).trans rfl
                    have fo_f3 := HQ.out.out.frozen 3
                    have fo_c4 : wr.cell? ⟨w.heap.size + 1 + 1, 4, none⟩ = some (.int .i64 0) := (HQ.out.out.cell 4).trans rfl
                    have fo_f4 := HQ.out.out.frozen 4
                    have fo_c5 : wr.cell? ⟨w.heap.size + 1 + 1, 5, none⟩ = some (.slice none 0 0) := (HQ.out.out.cell 5).trans rfl
                    have fo_f5 := HQ.out.out.frozen 5
                    go_wp2_with fail
                    (with_reducible refine (clamp_any _ _).mono ?_); rintro e u1 ⟨rfl, hb1⟩
                    have HWu := own_below HW.out hb1
                    have zl : zs.length = n := HZ.out.1
                    obtain ⟨g, eg, _, _, hcu, hfu⟩ := own_lt HWu (by omega)
                    simp at eg
                    subst eg
                    obtain ⟨zj, hzj⟩ : ∃ zj, zs[j]? = some zj := ⟨_, List.getElem?_eq_getElem (by omega)⟩
                    have hcj := hcu j (.int .i64 zj) (by rw [List.getElem?_map, hzj]; rfl)
                    have hfj := hfu j
                    have HS := Lib.hid (own_store HWu j (by omega) (.int .i64 (clampR z)))
                    clear hcu hfu zl hzj HWu
                    go_wp2_with fail
                    go_roundw
                    case rel => exact ⟨j + 1, zs.set j (clampR z), by go_num, by omega, Lib.hid (bl_set (bl_step HB.out hb1) (p := ⟨wo.heap.size, j, none⟩) (Nat.le_refl _) _), Lib.hid (by rw [List.map_set]; exact HS.out), Lib.hid (HZ.out.set (clamp_in z) (fun h => by first | exact hset.out h | exact hset.out trivial))⟩
                    case measure => simp only [intOf]; omega
                · clear hr h6
                  have jr1 : ¬ (j : Int) < (r.length : Int) := by omega
                  have fx_z : w.heap.size < wr.heap.size := HQ.out.par.lt
                  have fx_c0 : wr.cell? ⟨w.heap.size, 0, none⟩ = some (.int .i64 I.kind) := (HQ.out.par.cell 0).trans rfl
                  have fx_f0 := HQ.out.par.frozen 0
                  have fx_c1 : wr.cell? ⟨w.heap.size, 1, none⟩ = some (.int .i64 I.cap) := (HQ.out.par.cell 1).trans rfl
                  have fx_f1 := HQ.out.par.frozen 1
                  have fx_c2 : wr.cell? ⟨w.heap.size, 2, none⟩ = some (.slice A1 I.items.length c1) := (HQ.out.par.cell 2).trans rfl
                  have fx_f2 := HQ.out.par.frozen 2
                  have fx_c3 : wr.cell? ⟨w.heap.size, 3, none⟩ = some (.slice (some ⟨b, o, none⟩) I.cost.length c2) := (HQ.out.par.cell 3).trans rfl
                  have fx_f3 := HQ.out.par.frozen 3
                  have fx_c4 : wr.cell? ⟨w.heap.size, 4, none⟩ = some (.int .i64 I.size) := (HQ.out.par.cell 4).trans rfl
                  have fx_f4 := HQ.out.par.frozen 4
                  have fx_c5 : wr.cell? ⟨w.heap.size, 5, none⟩ = some (.slice A3 I.sets.length c3) := (HQ.out.par.cell 5).trans rfl
                  have fx_f5 := HQ.out.par.frozen 5
                  have fo_z : w.heap.size + 1 + 1 < wr.heap.size := HQ.out.out.lt
                  have fo_c0 : wr.cell? ⟨w.heap.size + 1 + 1, 0, none⟩ = some (.int .i64 K) := (HQ.out.out.cell 0).trans rfl
                  have fo_f0 := HQ.out.out.frozen 0
                  have fo_c1 : wr.cell? ⟨w.heap.size + 1 + 1, 1, none⟩ = some (.int .i64 0) := (HQ.out.out.cell 1).trans rfl
                  have fo_f1 := HQ.out.out.frozen 1
                  have fo_c2 : wr.cell? ⟨w.heap.size + 1 + 1, 2, none⟩ = some (.slice none 0 0) := (HQ.out.out.cell 2).trans rfl
                  have fo_f2 := HQ.out.out.frozen 2
                  have fo_c3 : wr.cell? ⟨w.heap.size + 1 + 1, 3, none⟩ = some (v2) := (HQ.out.out.cell 3).trans rfl
                  have fo_f3 := HQ.out.out.frozen 3
                  have fo_c4 : wr.cell? ⟨w.heap.size + 1 + 1, 4, none⟩ = some (.int .i64 0) := (HQ.out.out.cell 4).trans rfl
                  have fo_f4 := HQ.out.out.frozen 4
                  have fo_c5 : wr.cell? ⟨w.heap.size + 1 + 1, 5, none⟩ = some (.slice none 0 0) := (HQ.out.out.cell 5).trans rfl
                  have fo_f5 := HQ.out.out.frozen 5
                  go_wp2_with fail
                  go_roundw
                  case rel => exact ⟨j + 1, zs, by go_num, by omega, HB, HW, HZ⟩
                  case measure => simp only [intOf]; omega
              · have ic1 : ¬ (i : Int) < (I.cost.length : Int) := by omega
                have fx_z : w.heap.size < wr.heap.size := HQ.out.par.lt
                have fx_c0 : wr.cell? ⟨w.heap.size, 0, none⟩ = some (.int .i64 I.kind) := (HQ.out.par.cell 0).trans rfl
                have fx_f0 := HQ.out.par.frozen 0
                have fx_c1 : wr.cell? ⟨w.heap.size, 1, none⟩ = some (.int .i64 I.cap) := (HQ.out.par.cell 1).trans rfl
                have fx_f1 := HQ.out.par.frozen 1
                have fx_c2 : wr.cell? ⟨w.heap.size, 2, none⟩ = some (.slice A1 I.items.length c1) := (HQ.out.par.cell 2).trans rfl
                have fx_f2 := HQ.out.par.frozen 2
                have fx_c3 : wr.cell? ⟨w.heap.size, 3, none⟩ = some (.slice A2 I.cost.length c2) := (HQ.out.par.cell 3).trans rfl
                have fx_f3 := HQ.out.par.frozen 3
                have fx_c4 : wr.cell? ⟨w.heap.size, 4, none⟩ = some (.int .i64 I.size) := (HQ.out.par.cell 4).trans rfl
                have fx_f4 := HQ.out.par.frozen 4
                have fx_c5 : wr.cell? ⟨w.heap.size, 5, none⟩ = some (.slice A3 I.sets.length c3) := (HQ.out.par.cell 5).trans rfl
                have fx_f5 := HQ.out.par.frozen 5
                have fo_z : w.heap.size + 1 + 1 < wr.heap.size := HQ.out.out.lt
                have fo_c0 : wr.cell? ⟨w.heap.size + 1 + 1, 0, none⟩ = some (.int .i64 K) := (HQ.out.out.cell 0).trans rfl
                have fo_f0 := HQ.out.out.frozen 0
                have fo_c1 : wr.cell? ⟨w.heap.size + 1 + 1, 1, none⟩ = some (.int .i64 0) := (HQ.out.out.cell 1).trans rfl
                have fo_f1 := HQ.out.out.frozen 1
                have fo_c2 : wr.cell? ⟨w.heap.size + 1 + 1, 2, none⟩ = some (.slice none 0 0) := (HQ.out.out.cell 2).trans rfl
                have fo_f2 := HQ.out.out.frozen 2
                have fo_c3 : wr.cell? ⟨w.heap.size + 1 + 1, 3, none⟩ = some (v2) := (HQ.out.out.cell 3).trans rfl
                have fo_f3 := HQ.out.out.frozen 3
                have fo_c4 : wr.cell? ⟨w.heap.size + 1 + 1, 4, none⟩ = some (.int .i64 0) := (HQ.out.out.cell 4).trans rfl
                have fo_f4 := HQ.out.out.frozen 4
                have fo_c5 : wr.cell? ⟨w.heap.size + 1 + 1, 5, none⟩ = some (.slice none 0 0) := (HQ.out.out.cell 5).trans rfl
                have fo_f5 := HQ.out.out.frozen 5
                go_wp2_with fail
                go_roundw
                case rel => exact ⟨j + 1, zs, by go_num, by omega, HB, HW, HZ⟩
                case measure => simp only [intOf]; omega
            · obtain rfl : j = n := by omega
              clear hjn hj
              have zl : zs.length = j := HZ.out.1
              have nb : Below wr.heap.size wr (wr.alloc (.cells #[.slice (some ⟨wo.heap.size, 0, none⟩) j j] 53)) := bl_alloc (Below.refl _ _) _
              have hx := own_more (base' := w.heap.size + 1 + 1 + 1) HW.out hsz
              have hx := own_below hx nb
              obtain ⟨D, d, X, ra, HA, HOA⟩ := TmR.runR (HQ.out.below nb) ((HO.out.below HB.out).below nb) (t := _) (r := zs) (by rw [zl]; exact hx) (Blk.new _ _ _) hln 23
              clear hx zl nb
              have fx_z : w.heap.size < wr.heap.size := HQ.out.par.lt
              have fx_c0 : wr.cell? ⟨w.heap.size, 0, none⟩ = some (.int .i64 I.kind) := (HQ.out.par.cell 0).trans rfl
              have fx_f0 := HQ.out.par.frozen 0
              have fx_c1 : wr.cell? ⟨w.heap.size, 1, none⟩ = some (.int .i64 I.cap) := (HQ.out.par.cell 1).trans rfl
              have fx_f1 := HQ.out.par.frozen 1
              have fx_c2 : wr.cell? ⟨w.heap.size, 2, none⟩ = some (.slice A1 I.items.length c1) := (HQ.out.par.cell 2).trans rfl
              have fx_f2 := HQ.out.par.frozen 2
              have fx_c3 : wr.cell? ⟨w.heap.size, 3, none⟩ = some (.slice A2 I.cost.length c2) := (HQ.out.par.cell 3).trans rfl
              have fx_f3 := HQ.out.par.frozen 3
              have fx_c4 : wr.cell? ⟨w.heap.size, 4, none⟩ = some (.int .i64 I.size) := (HQ.out.par.cell 4).trans rfl
              have fx_f4 := HQ.out.par.frozen 4
              have fx_c5 : wr.cell? ⟨w.heap.size, 5, none⟩ = some (.slice A3 I.sets.length c3) := (HQ.out.par.cell 5).trans rfl
              have fx_f5 := HQ.out.par.frozen 5
              have fo_z : w.heap.size + 1 + 1 < wr.heap.size := HQ.out.out.lt
              have fo_c0 : wr.cell? ⟨w.heap.size + 1 + 1, 0, none⟩ = some (.int .i64 K) := (HQ.out.out.cell 0).trans rfl
              have fo_f0 := HQ.out.out.frozen 0
              have fo_c1 : wr.cell? ⟨w.heap.size + 1 + 1, 1, none⟩ = some (.int .i64 0) := (HQ.out.out.cell 1).trans rfl
              have fo_f1 := HQ.out.out.frozen 1
              have fo_c2 : wr.cell? ⟨w.heap.size + 1 + 1, 2, none⟩ = some (.slice none 0 0) := (HQ.out.out.cell 2).trans rfl
              have fo_f2 := HQ.out.out.frozen 2
              have fo_c3 : wr.cell? ⟨w.heap.size + 1 + 1, 3, none⟩ = some (v2) := (HQ.out.out.cell 3).trans rfl
              have fo_f3 := HQ.out.out.frozen 3
              have fo_c4 : wr.cell? ⟨w.heap.size + 1 + 1, 4, none⟩ = some (.int .i64 0) := (HQ.out.out.cell 4).trans rfl
              have fo_f4 := HQ.out.out.frozen 4
              have fo_c5 : wr.cell? ⟨w.heap.size + 1 + 1, 5, none⟩ = some (.slice none 0 0) := (HQ.out.out.cell 5).trans rfl
              have fo_f5 := HQ.out.out.frozen 5
              have h_z : w.heap.size + 1 + 1 < X.heap.size := HA.out.lt
              have h_c0 : X.cell? ⟨w.heap.size + 1 + 1, 0, none⟩ = some (.int .i64 K) := (HA.out.cell 0).trans rfl
              have h_f0 := HA.out.frozen 0
              have h_c1 : X.cell? ⟨w.heap.size + 1 + 1, 1, none⟩ = some (.int .i64 0) := (HA.out.cell 1).trans rfl
              have h_f1 := HA.out.frozen 1
              have h_c2 : X.cell? ⟨w.heap.size + 1 + 1, 2, none⟩ = some (.slice none 0 0) := (HA.out.cell 2).trans rfl
              have h_f2 := HA.out.frozen 2
              have h_c3 : X.cell? ⟨w.heap.size + 1 + 1, 3, none⟩ = some (v2) := (HA.out.cell 3).trans rfl
              have h_f3 := HA.out.frozen 3
              have h_c4 : X.cell? ⟨w.heap.size + 1 + 1, 4, none⟩ = some (.int .i64 0) := (HA.out.cell 4).trans rfl
              have h_f4 := HA.out.frozen 4
              have h_c5 : X.cell? ⟨w.heap.size + 1 + 1, 5, none⟩ = some (.slice none 0 0) := (HA.out.cell 5).trans rfl
              have h_f5 := HA.out.frozen 5
              go_wp2_with (at_builtin; refine list_run rfl (.tmp 85) (.tmp 87) 23 rfl (by exact ra) ?_)
              go_roundw
              case rel => exact ⟨i + 1, (.slice D (rows.length + 1) d), rows ++ [zs], by go_num, by omega, Lib.hid (HA.put 3 (.slice D (rows.length + 1) d) rfl), Lib.hid (HOA.set (by simp) _), Lib.hid ⟨by simp [HL.out.1], HL.out.2.snoc (by rw [HL.out.1]; exact HZ.out)⟩⟩
              case measure => simp only [intOf]; omega
        · obtain rfl : i = n := by omega
          clear hlt hi
          have KK : K = 1 ∨ K = 2 := by omega
          obtain ⟨D2, d2, e2⟩ : ∃ D d, v2 = .slice D rows.length d := by obtain ⟨_, _, h, _⟩ := HO.out; obtain ⟨D, d, e, _⟩ := own_slice h; exact ⟨D, d, e⟩
          subst e2
          have ex_z : w.heap.size < wo.heap.size := HR.out.par.lt
          have ex_c0 : wo.cell? ⟨w.heap.size, 0, none⟩ = some (.int .i64 I.kind) := (HR.out.par.cell 0).trans rfl
          have ex_f0 := HR.out.par.frozen 0
          have ex_c1 : wo.cell? ⟨w.heap.size, 1, none⟩ = some (.int .i64 I.cap) := (HR.out.par.cell 1).trans rfl
          have ex_f1 := HR.out.par.frozen 1
          have ex_c2 : wo.cell? ⟨w.heap.size, 2, none⟩ = some (.slice A1 I.items.length c1) := (HR.out.par.cell 2).trans rfl
          have ex_f2 := HR.out.par.frozen 2
          have ex_c3 : wo.cell? ⟨w.heap.size, 3, none⟩ = some (.slice A2 I.cost.length c2) := (HR.out.par.cell 3).trans rfl
          have ex_f3 := HR.out.par.frozen 3
          have ex_c4 : wo.cell? ⟨w.heap.size, 4, none⟩ = some (.int .i64 I.size) := (HR.out.par.cell 4).trans rfl
          have ex_f4 := HR.out.par.frozen 4
          have ex_c5 : wo.cell? ⟨w.heap.size, 5, none⟩ = some (.slice A3 I.sets.length c3) := (HR.out.par.cell 5).trans rfl
          have ex_f5 := HR.out.par.frozen 5
          have eo_z : w.heap.size + 1 + 1 < wo.heap.size := HR.out.out.lt
          have eo_c0 : wo.cell? ⟨w.heap.size + 1 + 1, 0, none⟩ = some (.int .i64 K) := (HR.out.out.cell 0).trans rfl
          have eo_f0 := HR.out.out.frozen 0
          have eo_c1 : wo.cell? ⟨w.heap.size + 1 + 1, 1, none⟩ = some (.int .i64 0) := (HR.out.out.cell 1).trans rfl
          have eo_f1 := HR.out.out.frozen 1
          have eo_c2 : wo.cell? ⟨w.heap.size + 1 + 1, 2, none⟩ = some (.slice none 0 0) := (HR.out.out.cell 2).trans rfl
          have eo_f2 := HR.out.out.frozen 2
          have eo_c3 : wo.cell? ⟨w.heap.size + 1 + 1, 3, none⟩ = some (.slice D2 rows.length d2) := (HR.out.out.cell 3).trans rfl
          have eo_f3 := HR.out.out.frozen 3
          have eo_c4 : wo.cell? ⟨w.heap.size + 1 + 1, 4, none⟩ = some (.int .i64 0) := (HR.out.out.cell 4).trans rfl
          have eo_f4 := HR.out.out.frozen 4
          have eo_c5 : wo.cell? ⟨w.heap.size + 1 + 1, 5, none⟩ = some (.slice none 0 0) := (HR.out.out.cell 5).trans rfl
          have eo_f5 := HR.out.out.frozen 5
          have r_z : w.heap.size + 1 < wo.heap.size := HR.out.res.lt
          have r_c0 : wo.cell? ⟨w.heap.size + 1, 0, none⟩ = some (.int .i64 0) := (HR.out.res.cell 0).trans rfl
          have r_f0 := HR.out.res.frozen 0
          have r_c1 : wo.cell? ⟨w.heap.size + 1, 1, none⟩ = some (.int .i64 0) := (HR.out.res.cell 1).trans rfl
          have r_f1 := HR.out.res.frozen 1
          have r_c2 : wo.cell? ⟨w.heap.size + 1, 2, none⟩ = some (.slice none 0 0) := (HR.out.res.cell 2).trans rfl
          have r_f2 := HR.out.res.frozen 2
          have r_c3 : wo.cell? ⟨w.heap.size + 1, 3, none⟩ = some (.slice none 0 0) := (HR.out.res.cell 3).trans rfl
          have r_f3 := HR.out.res.frozen 3
          have r_c4 : wo.cell? ⟨w.heap.size + 1, 4, none⟩ = some (.int .i64 0) := (HR.out.res.cell 4).trans rfl
          have r_f4 := HR.out.res.frozen 4
          have r_c5 : wo.cell? ⟨w.heap.size + 1, 5, none⟩ = some (.slice none 0 0) := (HR.out.res.cell 5).trans rfl
          have r_f5 := HR.out.res.frozen 5
          go_wp2_with fail
          have lt2 : w.heap.size + 1 < w.heap.size + 1 + 1 + 1 := by omega
          have ge2 : w.heap.size ≤ w.heap.size + 1 := by omega
          have QR : Blk (((((((wo.setCell ⟨w.heap.size + 1, 0, none⟩ (.int .i64 K)).setCell ⟨w.heap.size + 1, 1, none⟩ (.int .i64 0)).setCell ⟨w.heap.size + 1, 2, none⟩ (.slice none 0 0)).setCell ⟨w.heap.size + 1, 3, none⟩ (.slice D2 rows.length d2)).setCell ⟨w.heap.size + 1, 4, none⟩ (.int .i64 0)).setCell ⟨w.heap.size + 1, 5, none⟩ (.slice none 0 0))) (w.heap.size + 1) 26 #[.int .i64 K, .int .i64 0, .slice none 0 0, .slice D2 rows.length d2, .int .i64 0, .slice none 0 0] := ((((((HR.out.res.put 0 (.int .i64 K) rfl).put 1 (.int .i64 0) rfl).put 2 (.slice none 0 0) rfl).put 3 (.slice D2 rows.length d2) rfl).put 4 (.int .i64 0) rfl).put 5 (.slice none 0 0) rfl)
          have QO := Lib.hid ((((((HO.out.set (p := ⟨w.heap.size + 1, 0, none⟩) (by exact lt2) (.int .i64 K)).set (p := ⟨w.heap.size + 1, 1, none⟩) (by exact lt2) (.int .i64 0)).set (p := ⟨w.heap.size + 1, 2, none⟩) (by exact lt2) (.slice none 0 0)).set (p := ⟨w.heap.size + 1, 3, none⟩) (by exact lt2) (.slice D2 rows.length d2)).set (p := ⟨w.heap.size + 1, 4, none⟩) (by exact lt2) (.int .i64 0)).set (p := ⟨w.heap.size + 1, 5, none⟩) (by exact lt2) (.slice none 0 0))
          have QB : Below w.heap.size w (((((((wo.setCell ⟨w.heap.size + 1, 0, none⟩ (.int .i64 K)).setCell ⟨w.heap.size + 1, 1, none⟩ (.int .i64 0)).setCell ⟨w.heap.size + 1, 2, none⟩ (.slice none 0 0)).setCell ⟨w.heap.size + 1, 3, none⟩ (.slice D2 rows.length d2)).setCell ⟨w.heap.size + 1, 4, none⟩ (.int .i64 0)).setCell ⟨w.heap.size + 1, 5, none⟩ (.slice none 0 0))) := (bl_set (bl_set (bl_set (bl_set (bl_set (bl_set HR.out.b (p := ⟨w.heap.size + 1, 0, none⟩) (by exact ge2) (.int .i64 K)) (p := ⟨w.heap.size + 1, 1, none⟩) (by exact ge2) (.int .i64 0)) (p := ⟨w.heap.size + 1, 2, none⟩) (by exact ge2) (.slice none 0 0)) (p := ⟨w.heap.size + 1, 3, none⟩) (by exact ge2) (.slice D2 rows.length d2)) (p := ⟨w.heap.size + 1, 4, none⟩) (by exact ge2) (.int .i64 0)) (p := ⟨w.heap.size + 1, 5, none⟩) (by exact ge2) (.slice none 0 0))
          generalize ((((((wo.setCell ⟨w.heap.size + 1, 0, none⟩ (.int .i64 K)).setCell ⟨w.heap.size + 1, 1, none⟩ (.int .i64 0)).setCell ⟨w.heap.size + 1, 2, none⟩ (.slice none 0 0)).setCell ⟨w.heap.size + 1, 3, none⟩ (.slice D2 rows.length d2)).setCell ⟨w.heap.size + 1, 4, none⟩ (.int .i64 0)).setCell ⟨w.heap.size + 1, 5, none⟩ (.slice none 0 0)) = wz at QR QO QB ⊢
          have zz_z : w.heap.size + 1 < wz.heap.size := QR.lt
          have zz_c0 : wz.cell? ⟨w.heap.size + 1, 0, none⟩ = some (.int .i64 K) := (QR.cell 0).trans rfl
          have zz_f0 := QR.frozen 0
          have zz_c1 : wz.cell? ⟨w.heap.size + 1, 1, none⟩ = some (.int .i64 0) := (QR.cell 1).trans rfl
          have zz_f1 := QR.frozen 1
          have zz_c2 : wz.cell? ⟨w.heap.size + 1, 2, none⟩ = some (.slice none 0 0) := (QR.cell 2).trans rfl
          have zz_f2 := QR.frozen 2
          have zz_c3 : wz.cell? ⟨w.heap.size + 1, 3, none⟩ = some (.slice D2 rows.length d2) := (QR.cell 3).trans rfl
          have zz_f3 := QR.frozen 3
          have zz_c4 : wz.cell? ⟨w.heap.size + 1, 4, none⟩ = some (.int .i64 0) := (QR.cell 4).trans rfl
          have zz_f4 := QR.frozen 4
          have zz_c5 : wz.cell? ⟨w.heap.size + 1, 5, none⟩ = some (.slice none 0 0) := (QR.cell 5).trans rfl
          have zz_f5 := QR.frozen 5
          refine bodyPost_ret (v := .agg #[.int .i64 K, .int .i64 0, .slice none 0 0, .slice D2 rows.length d2, .int .i64 0, .slice none 0 0]) (by simp [results, Tryd.results7, go_sem, zz_z, zz_c0, zz_f0, zz_c1, zz_f1, zz_c2, zz_f2, zz_c3, zz_f3, zz_c4, zz_f4, zz_c5, zz_f5]) rfl ?_
          have HT : TameD ⟨K, 0, [], rows, 0, []⟩ mo := Or.inr (Or.inr ⟨KK, rfl, rfl, rfl, rfl, by show 1 ≤ rows.length; rw [HL.out.1]; exact Bn.1, by show rows.length ≤ 1 ∨ rows.length < mo; rw [HL.out.1]; exact Bn.2.1, fun r hr => ?_, fun h2 => bare_of rows 0 fun k r hr => ?_⟩)
          · exact ⟨⟨K, 0, [], rows, 0, []⟩, none, 0, D2, d2, none, 0, rfl, HT, ⟨own_nil _ _ _ _, QO.out, ownS_nil _ _ _ _, tame_in HT⟩, QB⟩
          · obtain ⟨k, hk, rfl⟩ := List.getElem_of_mem hr; have := HL.out.2 k _ (List.getElem?_eq_getElem hk); exact ⟨by show _ = rows.length; rw [HL.out.1]; exact this.1, this.2.1⟩
          · have := (HL.out.2 k r hr).2.2 h2; rwa [Nat.zero_add]
end Go.Proofs.YteddbdmddgmicaaDoor
