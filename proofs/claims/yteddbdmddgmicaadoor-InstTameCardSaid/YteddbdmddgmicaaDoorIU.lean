/- The walk of wakes. -/
import Derived.Test.YteddbdmddgmicaaDoorIM
import Derived.Test.YteddbdmddgmicaaDoorIJ
import Derived.Test.YteddbdmddgmicaaDoorIN
import Derived.Test.YteddbdmddgmicaaDoorIS
namespace Go.Proofs.YteddbdmddgmicaaDoor
open Go.RowKit
set_option linter.unusedVariables false
set_option linter.unusedSimpArgs false
set_option maxRecDepth 100000

theorem Reads.bk {w : World} {g : Nat} {t : TypeId} {xs : List Value} {size n : Nat} (h : Blk w g t xs.toArray) (hn : xs.length = n * size) : Reads w (g + 1) size (some ⟨g, 0, none⟩) n xs :=
  ⟨hn, fun _ => ⟨g, 0, rfl, by omega, fun j u hu => by
    have := h.cell j
    rw [Nat.zero_add, this]
    simpa using hu⟩⟩
def I0 : IData := ⟨3, 0, [], [], 3, [(1, [0, 2])]⟩
def I4 : IData := ⟨4, 0, [], [], 0, []⟩
theorem inst0 {w : World} {g : Nat} (h2 : Blk w g 3 #[.int .i64 0, .int .i64 2]) (h1 : Blk w (g + 1) 56 #[.int .i64 1, .slice (some ⟨g, 0, none⟩) 2 2]) : InstAt w w.heap.size I0 none 0 none 0 (some ⟨g + 1, 0, none⟩) 1 := by
  have hg := h1.lt
  refine ⟨Reads.none_ _ _ _ _, ⟨[], rfl, Reads.none_ _ _ _ _, fun i r u hr => by simp [I0] at hr⟩, ⟨[(.int .i64 1, .slice (some ⟨g, 0, none⟩) 2 2)], rfl, ?_, ?_⟩, ⟨Nat.zero_le _, by omega⟩, ⟨Nat.zero_le _, by omega⟩, ⟨Nat.le_refl _, by omega⟩, ?_, Nat.le_refl _⟩
  · exact (Reads.bk (xs := [.int .i64 1, .slice (some ⟨g, 0, none⟩) 2 2]) (size := 2) (n := 1) h1 rfl).more (by omega)
  · intro i p u hp hu
    match i, hp, hu with
    | 0, hp, hu =>
      simp [I0] at hp hu
      subst hp hu
      exact ⟨rfl, _, _, rfl, Nat.le_refl _, by decide, (Reads.bk (xs := [.int .i64 0, .int .i64 2]) (size := 1) (n := 2) h2 rfl).more (by omega)⟩
  · refine ⟨⟨by decide, by decide⟩, ⟨by decide, by decide⟩, ⟨by decide, by decide⟩, fun p hp => by simp [I0] at hp, fun p hp => by simp [I0] at hp, fun p hp => ?_⟩
    simp [I0] at hp
    subst hp
    exact ⟨⟨by decide, by decide⟩, fun x hx => by simp at hx; rcases hx with rfl | rfl <;> exact ⟨by decide, by decide⟩⟩
theorem inst4 (w : World) : InstAt w w.heap.size I4 none 0 none 0 none 0 :=
  ⟨Reads.none_ _ _ _ _, ⟨[], rfl, Reads.none_ _ _ _ _, fun i r u hr => by simp [I4] at hr⟩, ⟨[], rfl, Reads.none_ _ _ _ _, fun i r u hr => by simp [I4] at hr⟩, ⟨Nat.le_refl _, by decide⟩, ⟨Nat.le_refl _, by decide⟩, ⟨Nat.le_refl _, by decide⟩,
    ⟨⟨by decide, by decide⟩, ⟨by decide, by decide⟩, ⟨by decide, by decide⟩, fun p hp => by simp [I4] at hp, fun p hp => by simp [I4] at hp, fun p hp => by simp [I4] at hp⟩, Nat.le_refl _⟩
/-- What stands while wakes runs. -/
structure WkR (wr : World) (g : Nat) : Prop where
  two : Blk wr g 3 #[.int .i64 0, .int .i64 2]
  set : Blk wr (g + 1) 56 #[.int .i64 1, .slice (some ⟨g, 0, none⟩) 2 2]
  box : Blk wr (g + 1 + 1) 33 #[.int .i64 3, .int .i64 0, .slice none 0 0, .slice none 0 0, .int .i64 3, .slice (some ⟨g + 1, 0, none⟩) 1 1]
  nm : NamesW wr
section
variable {w w' : World} {g : Nat}
theorem WkR.below (h : WkR w g) (hb : Below w.heap.size w w') : WkR w' g := ⟨h.two.below hb, h.set.below hb, h.box.below hb, h.nm.below hb⟩
theorem WkR.drew (h : WkR w g) : WkR w.drew g := h.below (bl_drew (Below.refl _ _))
theorem WkR.inst (h : WkR w g) : InstAt w w.heap.size I0 none 0 none 0 (some ⟨g + 1, 0, none⟩) 1 := inst0 h.two h.set
theorem wk_chk (h : WkR w g) : Calls Tryd.prog 9 #[.agg #[.int .i64 3, .int .i64 0, .slice none 0 0, .slice none 0 0, .int .i64 3, .slice (some ⟨g + 1, 0, none⟩) 1 1]] w fun e w' => e = .returned (.int .i64 0) ∧ Below w.heap.size w w' := check_any I0 none none (some ⟨g + 1, 0, none⟩) 0 0 1 w h.inst
theorem wk_chk4 (w : World) : Calls Tryd.prog 9 #[.agg #[.int .i64 4, .int .i64 0, .slice none 0 0, .slice none 0 0, .int .i64 0, .slice none 0 0]] w fun e w' => e = .returned (.int .i64 25) ∧ Below w.heap.size w w' := check_any I4 none none none 0 0 0 w (inst4 w)
theorem wk_nm (h : WkR w g) : Calls Tryd.prog 14 #[.int .i64 2] w fun e w' => e = .returned (.string ⟨#[116, 115, 112]⟩) ∧ Below w.heap.size w w' := name_any 2 w h.nm
theorem wk_n (h : WkR w g) : Calls Tryd.prog 11 #[.agg #[.int .i64 3, .int .i64 0, .slice none 0 0, .slice none 0 0, .int .i64 3, .slice (some ⟨g + 1, 0, none⟩) 1 1]] w fun e w' => e = .returned (.int .i64 1) ∧ Below w.heap.size w w' := n_any I0 none none (some ⟨g + 1, 0, none⟩) 0 0 1 w h.inst
theorem wk_cp (h : WkR w g) : Calls Tryd.prog 17 #[.agg #[.int .i64 3, .int .i64 0, .slice none 0 0, .slice none 0 0, .int .i64 3, .slice (some ⟨g + 1, 0, none⟩) 1 1]] w fun e w' => ∃ D1 d1 D2 d2 D3 d3, e = .returned (.agg #[.int .i64 3, .int .i64 0, .slice D1 0 d1, .slice D2 0 d2, .int .i64 3, .slice D3 1 d3]) ∧ OwnI w' (w.heap.size + 3) 52 56 I0 D1 d1 D2 d2 D3 d3 ∧ Below w.heap.size w w' :=
  copy_any I0 none none (some ⟨g + 1, 0, none⟩) 0 0 1 w h.inst (by constructor <;> simp [I0])
theorem wk_eq (h : WkR w g) {b : Nat} {D1 D2 D3 : Option Addr} {d1 d2 d3 : Nat} (ho : OwnI w b 52 56 I0 D1 d1 D2 d2 D3 d3) : Calls Tryd.prog 15 #[.agg #[.int .i64 3, .int .i64 0, .slice none 0 0, .slice none 0 0, .int .i64 3, .slice (some ⟨g + 1, 0, none⟩) 1 1], .agg #[.int .i64 3, .int .i64 0, .slice D1 0 d1, .slice D2 0 d2, .int .i64 3, .slice D3 1 d3]] w fun e w' => e = .returned (.bool true) ∧ Below w.heap.size w w' :=
  equal_any I0 I0 none none (some ⟨g + 1, 0, none⟩) D1 D2 D3 0 0 1 d1 d2 d3 w h.inst ho.inst
end
set_option maxHeartbeats 6400000 in
theorem wakes_any (w : World) (hw : NamesW w) : Calls Tryd.prog 13 #[] w fun e w' => e = .returned (.bool true) ∧ Below w.heap.size w w' := by
  have HN := Lib.hid hw
  go_enter Tryd.func13, Tryd.ntmps13
  go_wp2_with fail
  have H0 : WkR (((w.alloc (.cells #[.int .i64 0, .int .i64 2] 3)).alloc (.cells #[.int .i64 1, .slice (some ⟨w.heap.size, 0, none⟩) 2 2] 56)).alloc (.cells #[.int .i64 3, .int .i64 0, .slice none 0 0, .slice none 0 0, .int .i64 3, .slice (some ⟨w.heap.size + 1, 0, none⟩) 1 1] 33)) w.heap.size :=
    ⟨((Blk.new _ _ _).alloc _).alloc _, (Blk.new' (by simp) _ _).alloc _, Blk.new' (by simp) _ _, HN.out.below (bl_alloc (bl_alloc (bl_alloc (Below.refl _ _) _) _) _)⟩
  have bl0 : Below w.heap.size w (((w.alloc (.cells #[.int .i64 0, .int .i64 2] 3)).alloc (.cells #[.int .i64 1, .slice (some ⟨w.heap.size, 0, none⟩) 2 2] 56)).alloc (.cells #[.int .i64 3, .int .i64 0, .slice none 0 0, .slice none 0 0, .int .i64 3, .slice (some ⟨w.heap.size + 1, 0, none⟩) 1 1] 33)) := bl_alloc (bl_alloc (bl_alloc (Below.refl _ _) _) _) _
  generalize (((w.alloc (.cells #[.int .i64 0, .int .i64 2] 3)).alloc (.cells #[.int .i64 1, .slice (some ⟨w.heap.size, 0, none⟩) 2 2] 56)).alloc (.cells #[.int .i64 3, .int .i64 0, .slice none 0 0, .slice none 0 0, .int .i64 3, .slice (some ⟨w.heap.size + 1, 0, none⟩) 1 1] 33)) = w0 at H0 bl0 ⊢
  clear HN hw
  refine wp_region_pre (S := fun w' => w'.cell? ⟨w.heap.size + 1 + 1, 0, none⟩ = some (.int .i64 3) ∧ w'.cell? ⟨w.heap.size + 1 + 1, 1, none⟩ = some (.int .i64 0) ∧ w'.cell? ⟨w.heap.size + 1 + 1, 2, none⟩ = some (.slice none 0 0) ∧ w'.cell? ⟨w.heap.size + 1 + 1, 3, none⟩ = some (.slice none 0 0) ∧ w'.cell? ⟨w.heap.size + 1 + 1, 4, none⟩ = some (.int .i64 3) ∧ w'.cell? ⟨w.heap.size + 1 + 1, 5, none⟩ = some (.slice (some ⟨w.heap.size + 1, 0, none⟩) 1 1)) 23 (by kernel_rfl) (by kernel_rfl) ?_ (fun hH0 => ?_)
  · exact ⟨(H0.drew.box.cell 0).trans rfl, (H0.drew.box.cell 1).trans rfl, (H0.drew.box.cell 2).trans rfl, (H0.drew.box.cell 3).trans rfl, (H0.drew.box.cell 4).trans rfl, (H0.drew.box.cell 5).trans rfl⟩
  refine PreG.take (i := 0) (v := ?vv1) rfl (by kernel_rfl) (by kernel_rfl) (fun _ _ _ h => h) (Or.inl ⟨by rfl, ?hy1⟩) (by assumption) ?rest1
  case hy1 => intro w hSw; (try dsimp only at hSw); first | (go_simp; done) | (go_simp; with_reducible rfl)
  try simp only [Act.put, List.getElem_toArray, List.getElem_cons_zero, List.getElem_cons_succ, List.setIfInBounds_toArray, List.set_cons_zero, List.set_cons_succ]
  refine PreG.ready (rs := [1]) (by kernel_rfl) (by kernel_rfl) ?_
  refine AllPre.cons rfl (fun K hK => ?_) ?_
  · go_simp
    (with_reducible refine (wk_chk H0.drew).mono ?_); rintro e X2 ⟨rfl, hb2⟩
    go_wp2_with fail
    have HA2 := H0.drew.below hb2
    have bl2 := bl_step (bl_drew bl0) hb2
    refine hK.out _ _ ?_ (fun hH1 => ?_)
    · exact ⟨(HA2.box.cell 0).trans rfl, (HA2.box.cell 1).trans rfl, (HA2.box.cell 2).trans rfl, (HA2.box.cell 3).trans rfl, (HA2.box.cell 4).trans rfl, (HA2.box.cell 5).trans rfl⟩
    clear hK K hH0
    try simp only [Act.put, List.getElem_toArray, List.getElem_cons_zero, List.getElem_cons_succ, List.setIfInBounds_toArray, List.set_cons_zero, List.set_cons_succ]
    refine PreG.take (i := 2) (v := ?vv3) rfl (by kernel_rfl) (by kernel_rfl) (fun _ _ _ h => h) (Or.inl ⟨by rfl, ?hy3⟩) (by assumption) ?rest3
    case hy3 => intro w hSw; (try dsimp only at hSw); first | (go_simp; done) | (go_simp; with_reducible rfl)
    try simp only [Act.put, List.getElem_toArray, List.getElem_cons_zero, List.getElem_cons_succ, List.setIfInBounds_toArray, List.set_cons_zero, List.set_cons_succ]
    refine PreG.take (i := 3) (v := ?vv4) rfl (by kernel_rfl) (by kernel_rfl) (fun _ _ _ h => h) (Or.inl ⟨by rfl, ?hy4⟩) (by assumption) ?rest4
    case hy4 => intro w hSw; (try dsimp only at hSw); first | (go_simp; done) | (go_simp; with_reducible rfl)
    try simp only [Act.put, List.getElem_toArray, List.getElem_cons_zero, List.getElem_cons_succ, List.setIfInBounds_toArray, List.set_cons_zero, List.set_cons_succ]
    refine PreG.take (i := 4) (v := ?vv5) rfl (by kernel_rfl) (by kernel_rfl) (fun _ _ _ h => h) (Or.inl ⟨by rfl, ?hy5⟩) (by assumption) ?rest5
    case hy5 => intro w hSw; (try dsimp only at hSw); first | (go_simp; done) | (go_simp; with_reducible rfl)
    try simp only [Act.put, List.getElem_toArray, List.getElem_cons_zero, List.getElem_cons_succ, List.setIfInBounds_toArray, List.set_cons_zero, List.set_cons_succ]
    refine PreG.ready (rs := [5]) (by kernel_rfl) (by kernel_rfl) ?_
    refine AllPre.cons rfl (fun K hK => ?_) ?_
    · go_simp
      (with_reducible refine (wk_n HA2).mono ?_); rintro e X6 ⟨rfl, hb6⟩
      go_wp2_with fail
      have HA6 := HA2.below hb6
      have bl6 := bl_step bl2 hb6
      refine hK.out _ _ ?_ (fun hH2 => ?_)
      · exact ⟨(HA6.box.cell 0).trans rfl, (HA6.box.cell 1).trans rfl, (HA6.box.cell 2).trans rfl, (HA6.box.cell 3).trans rfl, (HA6.box.cell 4).trans rfl, (HA6.box.cell 5).trans rfl⟩
      clear hK K hH1
      try simp only [Act.put, List.getElem_toArray, List.getElem_cons_zero, List.getElem_cons_succ, List.setIfInBounds_toArray, List.set_cons_zero, List.set_cons_succ]
      refine PreG.take (i := 6) (v := ?vv7) rfl (by kernel_rfl) (by kernel_rfl) (fun _ _ _ h => h) (Or.inl ⟨by rfl, ?hy7⟩) (by assumption) ?rest7
      case hy7 => intro w hSw; (try dsimp only at hSw); first | (go_simp; done) | (go_simp; with_reducible rfl)
      try simp only [Act.put, List.getElem_toArray, List.getElem_cons_zero, List.getElem_cons_succ, List.setIfInBounds_toArray, List.set_cons_zero, List.set_cons_succ]
      refine PreG.take (i := 7) (v := ?vv8) rfl (by kernel_rfl) (by kernel_rfl) (fun _ _ _ h => h) (Or.inl ⟨by rfl, ?hy8⟩) (by assumption) ?rest8
      case hy8 => intro w hSw; (try dsimp only at hSw); first | (go_simp; done) | (go_simp; with_reducible rfl)
      try simp only [Act.put, List.getElem_toArray, List.getElem_cons_zero, List.getElem_cons_succ, List.setIfInBounds_toArray, List.set_cons_zero, List.set_cons_succ]
      refine PreG.take (i := 8) (v := ?vv9) rfl (by kernel_rfl) (by kernel_rfl) (fun _ _ _ h => h) (Or.inl ⟨by rfl, ?hy9⟩) (by assumption) ?rest9
      case hy9 => intro w hSw; (try dsimp only at hSw); first | (go_simp; done) | (go_simp; with_reducible rfl)
      try simp only [Act.put, List.getElem_toArray, List.getElem_cons_zero, List.getElem_cons_succ, List.setIfInBounds_toArray, List.set_cons_zero, List.set_cons_succ]
      refine PreG.take (i := 9) (v := ?vv10) rfl (by kernel_rfl) (by kernel_rfl) (fun _ _ _ h => h) (Or.inl ⟨by rfl, ?hy10⟩) (by assumption) ?rest10
      case hy10 => intro w hSw; (try dsimp only at hSw); first | (go_simp; done) | (go_simp; with_reducible rfl)
      try simp only [Act.put, List.getElem_toArray, List.getElem_cons_zero, List.getElem_cons_succ, List.setIfInBounds_toArray, List.set_cons_zero, List.set_cons_succ]
      refine PreG.take (i := 10) (v := ?vv11) rfl (by kernel_rfl) (by kernel_rfl) (fun _ _ _ h => h) (Or.inl ⟨by rfl, ?hy11⟩) (by assumption) ?rest11
      case hy11 => intro w hSw; (try dsimp only at hSw); first | (go_simp; done) | (go_simp; with_reducible rfl)
      try simp only [Act.put, List.getElem_toArray, List.getElem_cons_zero, List.getElem_cons_succ, List.setIfInBounds_toArray, List.set_cons_zero, List.set_cons_succ]
      refine PreG.ready (rs := [11]) (by kernel_rfl) (by kernel_rfl) ?_
      refine AllPre.cons rfl (fun K hK => ?_) ?_
      · go_simp
        (with_reducible refine (wk_cp HA6).mono ?_); rintro e X12 ⟨D1, d1, D2, d2, D3, d3, rfl, ow12, hb12⟩
        go_wp2_with fail
        have HA12 := HA6.below hb12
        have bl12 := bl_step bl6 hb12
        refine hK.out _ _ ?_ (fun hH3 => ?_)
        · exact ⟨(HA12.box.cell 0).trans rfl, (HA12.box.cell 1).trans rfl, (HA12.box.cell 2).trans rfl, (HA12.box.cell 3).trans rfl, (HA12.box.cell 4).trans rfl, (HA12.box.cell 5).trans rfl⟩
        clear hK K hH2
        try simp only [Act.put, List.getElem_toArray, List.getElem_cons_zero, List.getElem_cons_succ, List.setIfInBounds_toArray, List.set_cons_zero, List.set_cons_succ]
        refine PreG.ready (rs := [12]) (by kernel_rfl) (by kernel_rfl) ?_
        refine AllPre.cons rfl (fun K hK => ?_) ?_
        · go_simp
          (with_reducible refine (wk_eq HA12 ow12).mono ?_); rintro e X13 ⟨rfl, hb13⟩
          go_wp2_with fail
          have HA13 := HA12.below hb13
          have bl13 := bl_step bl12 hb13
          refine hK.out _ _ ?_ (fun hH4 => ?_)
          · exact ⟨(HA13.box.cell 0).trans rfl, (HA13.box.cell 1).trans rfl, (HA13.box.cell 2).trans rfl, (HA13.box.cell 3).trans rfl, (HA13.box.cell 4).trans rfl, (HA13.box.cell 5).trans rfl⟩
          clear hK K hH3
          try simp only [Act.put, List.getElem_toArray, List.getElem_cons_zero, List.getElem_cons_succ, List.setIfInBounds_toArray, List.set_cons_zero, List.set_cons_succ]
          refine PreG.take (i := 13) (v := ?vv14) rfl (by kernel_rfl) (by kernel_rfl) (fun _ _ _ h => h) (Or.inl ⟨by rfl, ?hy14⟩) (by assumption) ?rest14
          case hy14 => intro w hSw; (try dsimp only at hSw); first | (go_simp; done) | (go_simp; with_reducible rfl)
          try simp only [Act.put, List.getElem_toArray, List.getElem_cons_zero, List.getElem_cons_succ, List.setIfInBounds_toArray, List.set_cons_zero, List.set_cons_succ]
          refine PreG.take (i := 14) (v := ?vv15) rfl (by kernel_rfl) (by kernel_rfl) (fun _ _ _ h => h) (Or.inl ⟨by rfl, ?hy15⟩) (by assumption) ?rest15
          case hy15 => intro w hSw; (try dsimp only at hSw); first | (go_simp; done) | (go_simp; with_reducible rfl)
          try simp only [Act.put, List.getElem_toArray, List.getElem_cons_zero, List.getElem_cons_succ, List.setIfInBounds_toArray, List.set_cons_zero, List.set_cons_succ]
          refine PreG.ready (rs := [15]) (by kernel_rfl) (by kernel_rfl) ?_
          refine AllPre.cons rfl (fun K hK => ?_) ?_
          · go_simp
            (with_reducible refine (wk_nm HA13).mono ?_); rintro e X16 ⟨rfl, hb16⟩
            go_wp2_with fail
            have HA16 := HA13.below hb16
            have bl16 := bl_step bl13 hb16
            refine hK.out _ _ ?_ (fun hH5 => ?_)
            · exact ⟨(HA16.box.cell 0).trans rfl, (HA16.box.cell 1).trans rfl, (HA16.box.cell 2).trans rfl, (HA16.box.cell 3).trans rfl, (HA16.box.cell 4).trans rfl, (HA16.box.cell 5).trans rfl⟩
            clear hK K hH4
            try simp only [Act.put, List.getElem_toArray, List.getElem_cons_zero, List.getElem_cons_succ, List.setIfInBounds_toArray, List.set_cons_zero, List.set_cons_succ]
            refine PreG.take (i := 16) (v := ?vv17) rfl (by kernel_rfl) (by kernel_rfl) (fun _ _ _ h => h) (Or.inl ⟨by rfl, ?hy17⟩) (by assumption) ?rest17
            case hy17 => intro w hSw; (try dsimp only at hSw); first | (go_simp; done) | (go_simp; with_reducible rfl)
            try simp only [Act.put, List.getElem_toArray, List.getElem_cons_zero, List.getElem_cons_succ, List.setIfInBounds_toArray, List.set_cons_zero, List.set_cons_succ]
            refine PreG.take (i := 17) (v := ?vv18) rfl (by kernel_rfl) (by kernel_rfl) (fun _ _ _ h => h) (Or.inl ⟨by rfl, ?hy18⟩) (by assumption) ?rest18
            case hy18 => intro w hSw; (try dsimp only at hSw); first | (go_simp; done) | (go_simp; with_reducible rfl)
            try simp only [Act.put, List.getElem_toArray, List.getElem_cons_zero, List.getElem_cons_succ, List.setIfInBounds_toArray, List.set_cons_zero, List.set_cons_succ]
            refine PreG.take (i := 18) (v := ?vv19) rfl (by kernel_rfl) (by kernel_rfl) (fun _ _ _ h => h) (Or.inl ⟨by rfl, ?hy19⟩) (by assumption) ?rest19
            case hy19 => intro w hSw; (try dsimp only at hSw); first | (go_simp; done) | (go_simp; with_reducible rfl)
            try simp only [Act.put, List.getElem_toArray, List.getElem_cons_zero, List.getElem_cons_succ, List.setIfInBounds_toArray, List.set_cons_zero, List.set_cons_succ]
            refine PreG.take (i := 19) (v := ?vv20) rfl (by kernel_rfl) (by kernel_rfl) (fun _ _ _ h => h) (Or.inl ⟨by rfl, ?hy20⟩) (by assumption) ?rest20
            case hy20 => intro w hSw; (try dsimp only at hSw); first | (go_simp; done) | (go_simp; with_reducible rfl)
            try simp only [Act.put, List.getElem_toArray, List.getElem_cons_zero, List.getElem_cons_succ, List.setIfInBounds_toArray, List.set_cons_zero, List.set_cons_succ]
            refine PreG.ready (rs := [20]) (by kernel_rfl) (by kernel_rfl) ?_
            refine AllPre.cons rfl (fun K hK => ?_) ?_
            · go_simp
              (with_reducible refine (wk_chk4 _).mono ?_); rintro e X21 ⟨rfl, hb21⟩
              go_wp2_with fail
              have HA21 := HA16.below hb21
              have bl21 := bl_step bl16 hb21
              refine hK.out _ _ ?_ (fun hH6 => ?_)
              · exact ⟨(HA21.box.cell 0).trans rfl, (HA21.box.cell 1).trans rfl, (HA21.box.cell 2).trans rfl, (HA21.box.cell 3).trans rfl, (HA21.box.cell 4).trans rfl, (HA21.box.cell 5).trans rfl⟩
              clear hK K hH5
              try simp only [Act.put, List.getElem_toArray, List.getElem_cons_zero, List.getElem_cons_succ, List.setIfInBounds_toArray, List.set_cons_zero, List.set_cons_succ]
              refine PreG.take (i := 21) (v := ?vv22) rfl (by kernel_rfl) (by kernel_rfl) (fun _ _ _ h => h) (Or.inl ⟨by rfl, ?hy22⟩) (by assumption) ?rest22
              case hy22 => intro w hSw; (try dsimp only at hSw); first | (go_simp; done) | (go_simp; with_reducible rfl)
              try simp only [Act.put, List.getElem_toArray, List.getElem_cons_zero, List.getElem_cons_succ, List.setIfInBounds_toArray, List.set_cons_zero, List.set_cons_succ]
              refine PreG.take (i := 22) (v := ?vv23) rfl (by kernel_rfl) (by kernel_rfl) (fun _ _ _ h => h) (Or.inl ⟨by rfl, ?hy23⟩) (by assumption) ?rest23
              case hy23 => intro w hSw; (try dsimp only at hSw); first | (go_simp; done) | (go_simp; with_reducible rfl)
              try simp only [Act.put, List.getElem_toArray, List.getElem_cons_zero, List.getElem_cons_succ, List.setIfInBounds_toArray, List.set_cons_zero, List.set_cons_succ]
              refine PreG.done (by kernel_rfl) ?_
              simp only [List.drop_succ_cons, List.drop_zero]
              clear hH6
              go_wp2
              go_ret
              exact ⟨rfl, bl21⟩
            exact AllPre.nil
          exact AllPre.nil
        exact AllPre.nil
      exact AllPre.nil
    exact AllPre.nil
  exact AllPre.nil
end Go.Proofs.YteddbdmddgmicaaDoor
