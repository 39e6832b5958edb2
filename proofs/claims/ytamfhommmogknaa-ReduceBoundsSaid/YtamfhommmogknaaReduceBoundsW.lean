/- The walk of ReduceBounds. -/
import Derived.Test.YtamfhommmogknaaDT
import Derived.Test.YtamfhommmogknaaDV
namespace Go.Proofs.Ytamfhommmogknaa
open Go Go.RowKit
set_option linter.unusedVariables false
set_option linter.unusedSimpArgs false
set_option maxRecDepth 100000

theorem tame9b (c : List (List Int)) (no : List (List Bool)) (A1 A2 : Option Addr) (c1 c2 : Nat) (w : World) {B : Nat} (hI : TabAt w B c no A1 c1 A2 c2) :
    Calls Try.prog 7 #[.slice A1 c.length c1, .slice A2 no.length c2, .int .i64 9] w fun e w' => TamePost w 9 e w' := tame_any c no A1 A2 c1 c2 9 (by omega) w hI
theorem tmod3 (x : Int) : ∃ m, Int.tmod x 3 = m ∧ -2 ≤ m ∧ m ≤ 2 := by
  refine ⟨_, rfl, ?_⟩
  rcases Int.le_total 0 x with h | h
  · rw [Int.tmod_eq_emod_of_nonneg h]; omega
  · have e : x.tmod 3 = -((-x).tmod 3) := by rw [Int.neg_tmod]; simp
    rw [e, Int.tmod_eq_emod_of_nonneg (by omega)]; omega
theorem set_in {l : List Int} {a b : Int} {i : Nat} {z : Int} (h : ∀ x ∈ l, a ≤ x ∧ x ≤ b) {a' b' : Int} (ha : a' ≤ a) (hb : b ≤ b') (hz : a' ≤ z ∧ z ≤ b') : ∀ x ∈ l.set i z, a' ≤ x ∧ x ≤ b' := fun x hx => by
  rcases List.mem_or_eq_of_mem_set hx with h1 | rfl
  · have := h x h1; omega
  · exact hz
/-- The program's bound and the document's are the same. -/
theorem both_bounds (c : List (List Int)) (no : List (List Bool)) (rows cols : List Int) (A1 A2 R C : Option Addr) (c1 c2 rc cc n : Nat) (w0 w : World) {B : Nat} (hI : TabAt w B c no A1 c1 A2 c2) (h : TwoR w0 w (.slice R n rc) (.slice C n cc) rows cols) (hr : rows.length = n) (hc : cols.length = n) (hn : n ≤ 400) (hi : ∀ x ∈ rows, InI x) (hj : ∀ x ∈ cols, InI x) :
    ∃ (z : Int) (f : Bool), (∀ w', Below w.heap.size w w' → Calls Try.prog 14 #[.agg #[.slice A1 c.length c1, .slice A2 no.length c2], .slice R n rc, .slice C n cc] w' fun e w'' => e = .returned (.tuple #[.int .i64 z, .bool f]) ∧ Below w'.heap.size w' w'') ∧
      (∀ w', Below w.heap.size w w' → Calls Try.prog 15 #[.slice A1 c.length c1, .slice A2 no.length c2, .slice R n rc, .slice C n cc] w' fun e w'' => e = .returned (.tuple #[.int .i64 z, .bool f]) ∧ Below w'.heap.size w' w'') :=
  ⟨(bndV c no rows cols).1, (bndV c no rows cols).2,
    fun w' hb => (bound_n c no rows cols A1 A2 R C c1 c2 rc cc n n w' ((hI.below hb).more (by have := hI.bd; have := hb.size; omega) (Nat.le_refl _)) ((h.below hb).rdR hr) ((h.below hb).rdC hc) hr hc hn hn hi hj).mono fun _ _ h => h.val,
    fun w' hb => (rbound_n c no rows cols A1 A2 R C c1 c2 rc cc n n w' ((hI.below hb).more (by have := hI.bd; have := hb.size; omega) (Nat.le_refl _)) ((h.below hb).rdR hr) ((h.below hb).rdC hc) hr hc).mono fun _ _ h => h.val⟩
set_option maxHeartbeats 12800000 in
theorem ReduceBounds_walk (c : List (List Int)) (no : List (List Bool)) (A1 A2 : Option Addr) (c1 c2 : Nat) (x : List (Int × Int)) (A3 : Option Addr) (c3 : Nat) (w : World) (hI : TabAt w w.heap.size c no A1 c1 A2 c2) (hx : RdP w w.heap.size A3 x) (hxc : x.length ≤ c3 ∧ c3 ≤ 9223372036854775807) (hxi : ∀ p ∈ x, InI p.1 ∧ InI p.2) :
    Calls Try.prog 4 #[.slice A1 c.length c1, .slice A2 no.length c2, .slice A3 x.length c3] w fun e w' => e = .returned (.bool true) ∧ Below w.heap.size w w' := by
  have N1 := hI.n1
  have N2 := hI.n2
  have HC := Lib.hid (cut_any c no A1 A2 c1 c2 w N1 N2)
  have HT := Lib.hid (hI.cut 70 70)
  have HX := Lib.hid hx
  have HXI := Lib.hid hxi
  obtain ⟨n3, hn3⟩ : ∃ n, (x.take 70).length = n := ⟨_, rfl⟩
  have E3 : (if (70 : Int) < (x.length : Int) then (70 : Int) else (x.length : Int)) = (n3 : Int) := by rw [List.length_take] at hn3; split <;> omega
  have B3 : n3 ≤ x.length ∧ n3 ≤ 70 := by rw [List.length_take] at hn3; omega
  clear hI hx hxi hn3
  go_enter Try.func4, Try.ntmps4
  go_wp2_with fail
  (with_reducible refine HC.out.mono ?_); rintro e v1 ⟨rfl, hb1⟩
  generalize c.take 70 = cc at HT ⊢
  generalize no.take 70 = nn at HT ⊢
  have HT1 := Lib.hid (HT.out.below hb1)
  have HTM := Lib.hid (tame9b cc nn A1 A2 c1 c2 v1 HT1.out)
  clear HC HT N1 N2
  go_wp2_with fail
  (with_reducible refine HTM.out.mono ?_); rintro e v2 ⟨d, q, D, Q, dd, qq, rfl, hd9, _, HD, hb2⟩
  have HT2 := Lib.hid (HT1.out.below hb2)
  replace HD := Lib.hid HD
  have bl2 := Lib.hid (bl_step hb1 hb2)
  clear HTM HT1 hb1 hb2
  go_wp2_with fail
  go_loopw [9, 10, 40] (fun v9 v10 vi wr => ∃ (i : Nat), vi = .int .i64 i ∧ i ≤ n3 ∧ Hid (TwoR v2 wr v9 v10 ((x.take i).map (·.1)) ((x.take i).map (·.2)))) (fun _ _ vi _ => n3 - (intOf vi).toNat)
  case atStart => exact ⟨0, rfl, Nat.zero_le _, Lib.hid (TwoR.start (Below.refl _ _))⟩
  case round =>
    obtain ⟨i, rfl, hi, HR⟩ := hrel
    by_cases hlt : i < n3
    · obtain ⟨p, hp⟩ : ∃ p, x[i]? = some p := ⟨_, List.getElem?_eq_getElem (by omega)⟩
      obtain ⟨b, o, rfl, hb, hx1, hx2⟩ := HX.out.get hp
      have hx1 := ((bl_step bl2.out HR.out.bl).cell (p := ⟨b, o + i * 2, none⟩) hb).trans hx1
      have hx2 := ((bl_step bl2.out HR.out.bl).cell (p := ⟨b, o + i * 2 + 1, none⟩) hb).trans hx2
      have i1 : (i : Int) < (n3 : Int) := by omega
      have i0 : (0 : Int) ≤ (i : Int) := by omega
      have EQ1 : Hid ((x.take (i + 1)).map (·.1) = (x.take i).map (·.1) ++ [p.1]) := Lib.hid (by rw [List.take_add_one, hp]; simp)
      have EQ2 : Hid ((x.take (i + 1)).map (·.2) = (x.take i).map (·.2) ++ [p.2]) := Lib.hid (by rw [List.take_add_one, hp]; simp)
      have hln : ((x.take i).map (·.1)).length ≤ 100 := by simp [List.length_take]; omega
      have hlm : ((x.take i).map (·.2)).length ≤ 100 := by simp [List.length_take]; omega
      clear hp
      generalize (x.take i).map (·.1) = rows at HR EQ1 hln
      generalize (x.take i).map (·.2) = cols at HR EQ2 hlm
      have nv := HR.out.newR
      have nu := HR.out.newC
      obtain ⟨p1, p2⟩ := p
      go_wp2_with fail
      have nb : Below wr.heap.size wr (wr.alloc (.cells #[.int .i64 p1, .int .i64 p2] 37)) := bl_alloc (Below.refl _ _) _
      have HS := HR.out.below nb
      have BT : Blk (wr.alloc (.cells #[.int .i64 p1, .int .i64 p2] 37)) wr.heap.size 37 #[.int .i64 p1, .int .i64 p2] := Blk.new _ _ _
      have sz7 : wr.heap.size ≤ (wr.alloc (.cells #[.int .i64 p1, .int .i64 p2] 37)).heap.size := nb.size
      clear nb hx1 hx2
      generalize wr.alloc (.cells #[.int .i64 p1, .int .i64 p2] 37) = wq at HS BT sz7 ⊢
      have t_z : wr.heap.size < wq.heap.size := BT.lt
      have t_c0 : wq.cell? ⟨wr.heap.size, 0, none⟩ = some (.int .i64 p1) := (BT.cell 0).trans rfl
      have t_f0 := BT.frozen 0
      have t_c1 : wq.cell? ⟨wr.heap.size, 1, none⟩ = some (.int .i64 p2) := (BT.cell 1).trans rfl
      have t_f1 := BT.frozen 1
      have sz8 : wr.heap.size ≤ wq.drew.heap.size := sz7
      go_wp2_with fail
      clear t_z t_c0 t_f0 t_c1 t_f1
      refine wp_region_pre (S := fun w' => w'.cell? ⟨wr.heap.size, 0, none⟩ = some (.int .i64 p1) ∧ w'.cell? ⟨wr.heap.size, 1, none⟩ = some (.int .i64 p2)) 10 (by kernel_rfl) (by kernel_rfl) ?_ (fun hH0 => ?_)
      · exact ⟨((BT.below (bl_drew (Below.refl _ _))).cell 0).trans rfl, ((BT.below (bl_drew (Below.refl _ _))).cell 1).trans rfl⟩
      refine PreG.take (i := 0) (v := ?vv1) rfl (by kernel_rfl) (by kernel_rfl) (fun _ _ _ h => h) (Or.inl ⟨by rfl, ?hy1⟩) (by assumption) ?rest1
      case hy1 => intro w hSw; (try dsimp only at hSw); first | (go_simp; done) | (go_simp; with_reducible rfl)
      try simp only [Act.put, List.getElem_toArray, List.getElem_cons_zero, List.getElem_cons_succ, List.setIfInBounds_toArray, List.set_cons_zero, List.set_cons_succ]
      refine PreG.take (i := 1) (v := ?vv2) rfl (by kernel_rfl) (by kernel_rfl) (fun _ _ _ h => h) (Or.inl ⟨by rfl, ?hy2⟩) (by assumption) ?rest2
      case hy2 => intro w hSw; (try dsimp only at hSw); first | (go_simp; done) | (go_simp; with_reducible rfl)
      try simp only [Act.put, List.getElem_toArray, List.getElem_cons_zero, List.getElem_cons_succ, List.setIfInBounds_toArray, List.set_cons_zero, List.set_cons_succ]
      refine PreG.take (i := 2) (v := ?vv3) rfl (by kernel_rfl) (by kernel_rfl) (fun _ _ _ h => h) (Or.inl ⟨by rfl, ?hy3⟩) (by assumption) ?rest3
      case hy3 => intro w hSw; (try dsimp only at hSw); first | (go_simp; done) | (go_simp; with_reducible rfl)
      try simp only [Act.put, List.getElem_toArray, List.getElem_cons_zero, List.getElem_cons_succ, List.setIfInBounds_toArray, List.set_cons_zero, List.set_cons_succ]
      refine PreG.take (i := 5) (v := ?vv4) rfl (by kernel_rfl) (by kernel_rfl) (fun _ _ _ h => h) (Or.inl ⟨by rfl, ?hy4⟩) (by assumption) ?rest4
      case hy4 => intro w hSw; (try dsimp only at hSw); first | (go_simp; done) | (go_simp; with_reducible rfl)
      try simp only [Act.put, List.getElem_toArray, List.getElem_cons_zero, List.getElem_cons_succ, List.setIfInBounds_toArray, List.set_cons_zero, List.set_cons_succ]
      refine PreG.take (i := 6) (v := ?vv5) rfl (by kernel_rfl) (by kernel_rfl) (fun _ _ _ h => h) (Or.inl ⟨by rfl, ?hy5⟩) (by assumption) ?rest5
      case hy5 => intro w hSw; (try dsimp only at hSw); first | (go_simp; done) | (go_simp; with_reducible rfl)
      try simp only [Act.put, List.getElem_toArray, List.getElem_cons_zero, List.getElem_cons_succ, List.setIfInBounds_toArray, List.set_cons_zero, List.set_cons_succ]
      refine PreG.take (i := 7) (v := ?vv6) rfl (by kernel_rfl) (by kernel_rfl) (fun _ _ _ h => h) (Or.inl ⟨by rfl, ?hy6⟩) (by assumption) ?rest6
      case hy6 => intro w hSw; (try dsimp only at hSw); first | (go_simp; done) | (go_simp; with_reducible rfl)
      try simp only [Act.put, List.getElem_toArray, List.getElem_cons_zero, List.getElem_cons_succ, List.setIfInBounds_toArray, List.set_cons_zero, List.set_cons_succ]
      refine PreG.ready (rs := [3, 8]) (by kernel_rfl) (by kernel_rfl) ?_
      refine AllPre.cons rfl (fun K hK => ?_) ?_
      · go_simp
        refine hK.out _ _ ?_ (fun hH1 => ?_)
        · exact ⟨(((BT.below (bl_drew (Below.refl _ _))).below (bl_alloc (Below.refl _ _) _)).cell 0).trans rfl, (((BT.below (bl_drew (Below.refl _ _))).below (bl_alloc (Below.refl _ _) _)).cell 1).trans rfl⟩
        clear hK K hH0
        try simp only [Act.put, List.getElem_toArray, List.getElem_cons_zero, List.getElem_cons_succ, List.setIfInBounds_toArray, List.set_cons_zero, List.set_cons_succ]
        refine PreG.ready (rs := [4, 8]) (by kernel_rfl) (by kernel_rfl) ?_
        refine AllPre.cons rfl (fun K hK => ?_) ?_
        · obtain ⟨D8, d8, X8, ra8, HA8, ga8⟩ := TwoR.runR ((HS.below (bl_drew (Below.refl _ _))).below (bl_alloc (Below.refl _ _) _)) (Blk.new' (b := wq.heap.size) (by simp) _ _) hln (ty := _)
          refine step_run rfl (.tmp 44) (.tmp 47) 29 rfl (by exact ra8) ?_
          have Bt_8 := (((BT.below (bl_drew (Below.refl _ _))).below (bl_alloc (Below.refl _ _) _))).grown ga8 (nv _ (by omega))
          refine hK.out _ _ ?_ (fun hH2 => ?_)
          · exact ⟨(Bt_8.cell 0).trans rfl, (Bt_8.cell 1).trans rfl⟩
          clear hK K hH1
          try simp only [Act.put, List.getElem_toArray, List.getElem_cons_zero, List.getElem_cons_succ, List.setIfInBounds_toArray, List.set_cons_zero, List.set_cons_succ]
          refine PreG.ready (rs := [8]) (by kernel_rfl) (by kernel_rfl) ?_
          refine AllPre.cons rfl (fun K hK => ?_) ?_
          · go_simp
            refine hK.out _ _ ?_ (fun hH3 => ?_)
            · exact ⟨((Bt_8.below (bl_alloc (Below.refl _ _) _)).cell 0).trans rfl, ((Bt_8.below (bl_alloc (Below.refl _ _) _)).cell 1).trans rfl⟩
            clear hK K hH2
            try simp only [Act.put, List.getElem_toArray, List.getElem_cons_zero, List.getElem_cons_succ, List.setIfInBounds_toArray, List.set_cons_zero, List.set_cons_succ]
            refine PreG.ready (rs := [9]) (by kernel_rfl) (by kernel_rfl) ?_
            refine AllPre.cons rfl (fun K hK => ?_) ?_
            · obtain ⟨D10, d10, X10, ra10, HA10, ga10⟩ := TwoR.runC (HA8.below (bl_alloc (Below.refl _ _) _)) (Blk.new' (b := X8.heap.size) (by simp) _ _) hlm (ty := _)
              refine step_run rfl (.tmp 49) (.tmp 52) 29 rfl (by exact ra10) ?_
              have Bt_10 := ((Bt_8.below (bl_alloc (Below.refl _ _) _))).grown ga10 (nu _ (by omega))
              refine hK.out _ _ ?_ (fun hH4 => ?_)
              · exact ⟨(Bt_10.cell 0).trans rfl, (Bt_10.cell 1).trans rfl⟩
              clear hK K hH3
              try simp only [Act.put, List.getElem_toArray, List.getElem_cons_zero, List.getElem_cons_succ, List.setIfInBounds_toArray, List.set_cons_zero, List.set_cons_succ]
              refine PreG.done (by kernel_rfl) ?_
              simp only [List.drop_succ_cons, List.drop_zero]
              clear hH4
              go_wp2_with fail
              go_roundw
              case rel => exact ⟨i + 1, by go_num, by omega, Lib.hid (by rw [EQ1.out, EQ2.out]; exact HA10)⟩
              case measure => simp only [intOf]; omega
            exact AllPre.nil
          exact AllPre.nil
        refine AllPre.cons rfl (fun K hK => ?_) ?_
        · go_simp
          refine hK.out _ _ ?_ (fun hH2 => ?_)
          · exact ⟨((((BT.below (bl_drew (Below.refl _ _))).below (bl_alloc (Below.refl _ _) _)).below (bl_alloc (Below.refl _ _) _)).cell 0).trans rfl, ((((BT.below (bl_drew (Below.refl _ _))).below (bl_alloc (Below.refl _ _) _)).below (bl_alloc (Below.refl _ _) _)).cell 1).trans rfl⟩
          clear hK K hH1
          try simp only [Act.put, List.getElem_toArray, List.getElem_cons_zero, List.getElem_cons_succ, List.setIfInBounds_toArray, List.set_cons_zero, List.set_cons_succ]
          refine PreG.ready (rs := [4]) (by kernel_rfl) (by kernel_rfl) ?_
          refine AllPre.cons rfl (fun K hK => ?_) ?_
          · obtain ⟨D12, d12, X12, ra12, HA12, ga12⟩ := TwoR.runR (((HS.below (bl_drew (Below.refl _ _))).below (bl_alloc (Below.refl _ _) _)).below (bl_alloc (Below.refl _ _) _)) ((Blk.new' (b := wq.heap.size) (by simp) _ _).below (bl_alloc (Below.refl _ _) _)) hln (ty := _)
            refine step_run rfl (.tmp 44) (.tmp 47) 29 rfl (by exact ra12) ?_
            have Bt_12 := ((((BT.below (bl_drew (Below.refl _ _))).below (bl_alloc (Below.refl _ _) _)).below (bl_alloc (Below.refl _ _) _))).grown ga12 (nv _ (by omega))
            have Bq_12 := ((Blk.new' (b := wq.heap.size + 1) (by simp) _ _)).grown ga12 (nv _ (by omega))
            refine hK.out _ _ ?_ (fun hH3 => ?_)
            · exact ⟨(Bt_12.cell 0).trans rfl, (Bt_12.cell 1).trans rfl⟩
            clear hK K hH2
            try simp only [Act.put, List.getElem_toArray, List.getElem_cons_zero, List.getElem_cons_succ, List.setIfInBounds_toArray, List.set_cons_zero, List.set_cons_succ]
            refine PreG.ready (rs := [9]) (by kernel_rfl) (by kernel_rfl) ?_
            refine AllPre.cons rfl (fun K hK => ?_) ?_
            · obtain ⟨D13, d13, X13, ra13, HA13, ga13⟩ := TwoR.runC HA12 Bq_12 hlm (ty := _)
              refine step_run rfl (.tmp 49) (.tmp 52) 29 rfl (by exact ra13) ?_
              have Bt_13 := (Bt_12).grown ga13 (nu _ (by omega))
              refine hK.out _ _ ?_ (fun hH4 => ?_)
              · exact ⟨(Bt_13.cell 0).trans rfl, (Bt_13.cell 1).trans rfl⟩
              clear hK K hH3
              try simp only [Act.put, List.getElem_toArray, List.getElem_cons_zero, List.getElem_cons_succ, List.setIfInBounds_toArray, List.set_cons_zero, List.set_cons_succ]
              refine PreG.done (by kernel_rfl) ?_
              simp only [List.drop_succ_cons, List.drop_zero]
              clear hH4
              go_wp2_with fail
              go_roundw
              case rel => exact ⟨i + 1, by go_num, by omega, Lib.hid (by rw [EQ1.out, EQ2.out]; exact HA13)⟩
              case measure => simp only [intOf]; omega
            exact AllPre.nil
          exact AllPre.nil
        exact AllPre.nil
      refine AllPre.cons rfl (fun K hK => ?_) ?_
      · go_simp
        refine hK.out _ _ ?_ (fun hH1 => ?_)
        · exact ⟨(((BT.below (bl_drew (Below.refl _ _))).below (bl_alloc (Below.refl _ _) _)).cell 0).trans rfl, (((BT.below (bl_drew (Below.refl _ _))).below (bl_alloc (Below.refl _ _) _)).cell 1).trans rfl⟩
        clear hK K hH0
        try simp only [Act.put, List.getElem_toArray, List.getElem_cons_zero, List.getElem_cons_succ, List.setIfInBounds_toArray, List.set_cons_zero, List.set_cons_succ]
        refine PreG.ready (rs := [3]) (by kernel_rfl) (by kernel_rfl) ?_
        refine AllPre.cons rfl (fun K hK => ?_) ?_
        · go_simp
          refine hK.out _ _ ?_ (fun hH2 => ?_)
          · exact ⟨((((BT.below (bl_drew (Below.refl _ _))).below (bl_alloc (Below.refl _ _) _)).below (bl_alloc (Below.refl _ _) _)).cell 0).trans rfl, ((((BT.below (bl_drew (Below.refl _ _))).below (bl_alloc (Below.refl _ _) _)).below (bl_alloc (Below.refl _ _) _)).cell 1).trans rfl⟩
          clear hK K hH1
          try simp only [Act.put, List.getElem_toArray, List.getElem_cons_zero, List.getElem_cons_succ, List.setIfInBounds_toArray, List.set_cons_zero, List.set_cons_succ]
          refine PreG.ready (rs := [4]) (by kernel_rfl) (by kernel_rfl) ?_
          refine AllPre.cons rfl (fun K hK => ?_) ?_
          · obtain ⟨D16, d16, X16, ra16, HA16, ga16⟩ := TwoR.runR (((HS.below (bl_drew (Below.refl _ _))).below (bl_alloc (Below.refl _ _) _)).below (bl_alloc (Below.refl _ _) _)) (Blk.new' (b := wq.heap.size + 1) (by simp) _ _) hln (ty := _)
            refine step_run rfl (.tmp 44) (.tmp 47) 29 rfl (by exact ra16) ?_
            have Bt_16 := ((((BT.below (bl_drew (Below.refl _ _))).below (bl_alloc (Below.refl _ _) _)).below (bl_alloc (Below.refl _ _) _))).grown ga16 (nv _ (by omega))
            have Bq_16 := (((Blk.new' (b := wq.heap.size) (by simp) _ _).below (bl_alloc (Below.refl _ _) _))).grown ga16 (nv _ (by omega))
            refine hK.out _ _ ?_ (fun hH3 => ?_)
            · exact ⟨(Bt_16.cell 0).trans rfl, (Bt_16.cell 1).trans rfl⟩
            clear hK K hH2
            try simp only [Act.put, List.getElem_toArray, List.getElem_cons_zero, List.getElem_cons_succ, List.setIfInBounds_toArray, List.set_cons_zero, List.set_cons_succ]
            refine PreG.ready (rs := [9]) (by kernel_rfl) (by kernel_rfl) ?_
            refine AllPre.cons rfl (fun K hK => ?_) ?_
            · obtain ⟨D17, d17, X17, ra17, HA17, ga17⟩ := TwoR.runC HA16 Bq_16 hlm (ty := _)
              refine step_run rfl (.tmp 49) (.tmp 52) 29 rfl (by exact ra17) ?_
              have Bt_17 := (Bt_16).grown ga17 (nu _ (by omega))
              refine hK.out _ _ ?_ (fun hH4 => ?_)
              · exact ⟨(Bt_17.cell 0).trans rfl, (Bt_17.cell 1).trans rfl⟩
              clear hK K hH3
              try simp only [Act.put, List.getElem_toArray, List.getElem_cons_zero, List.getElem_cons_succ, List.setIfInBounds_toArray, List.set_cons_zero, List.set_cons_succ]
              refine PreG.done (by kernel_rfl) ?_
              simp only [List.drop_succ_cons, List.drop_zero]
              clear hH4
              go_wp2_with fail
              go_roundw
              case rel => exact ⟨i + 1, by go_num, by omega, Lib.hid (by rw [EQ1.out, EQ2.out]; exact HA17)⟩
              case measure => simp only [intOf]; omega
            exact AllPre.nil
          exact AllPre.nil
        exact AllPre.nil
      exact AllPre.nil
    · obtain rfl : i = n3 := by omega
      have hrn : ((x.take i).map (·.1)).length = i := by simp [List.length_take]; omega
      have hcn : ((x.take i).map (·.2)).length = i := by simp [List.length_take]; omega
      have hri : ∀ z ∈ (x.take i).map (·.1), InI z := fun z hz => by
        obtain ⟨p, hp, rfl⟩ := List.mem_map.1 hz
        exact (HXI.out p (List.mem_of_mem_take hp)).1
      have hci : ∀ z ∈ (x.take i).map (·.2), InI z := fun z hz => by
        obtain ⟨p, hp, rfl⟩ := List.mem_map.1 hz
        exact (HXI.out p (List.mem_of_mem_take hp)).2
      generalize (x.take i).map (·.1) = rows at HR hrn hri
      generalize (x.take i).map (·.2) = cols at HR hcn hci
      obtain ⟨R, rc, rfl⟩ := HR.out.sliceR hrn
      obtain ⟨C, cc3, rfl⟩ := HR.out.sliceC hcn
      have bl3 := Lib.hid (bl_step bl2.out HR.out.bl)
      have HTr := HT2.out.below HR.out.bl
      have HDr := Lib.hid (HD.out.below HR.out.bl)
      obtain ⟨z, f, hb1, hb2⟩ := both_bounds cc nn rows cols A1 A2 R C c1 c2 rc cc3 i v2 wr (HTr) HR.out hrn hcn (by omega) hri hci
      have HB1 := Lib.hid hb1
      have HB2 := Lib.hid hb2
      clear hrn hcn hri hci HR HTr hb1 hb2 hlt hi HT2 bl2 E3
      go_wp2_with fail
      (with_reducible refine (HB1.out _ (Below.refl _ _)).mono ?_); rintro e v3 ⟨rfl, hb3⟩
      go_wp2_with fail
      (with_reducible refine (HB2.out _ hb3).mono ?_); rintro e v4 ⟨rfl, hb4⟩
      have b4 := bl_step hb3 hb4
      clear HB1 HB2
      go_wp2_with fail
      (with_reducible refine (wakes_any _).mono ?_); rintro e v5 ⟨rfl, hb5⟩
      have b5 := bl_step b4 hb5
      have HP := Lib.hid ((rprices2_any d q D Q dd qq v5 (HDr.out.below b5)).mono fun _ _ h => prices_two h (by omega))
      have bl5 := Lib.hid (bl_step bl3.out b5)
      have HD5 := Lib.hid (HDr.out.below b5)
      clear hb3 hb4 hb5 b4 b5 bl3 HDr HD
      go_wp2_with fail
      (with_reducible refine HP.out.mono ?_); rintro e v6 ⟨us, vs, U, V, n, u, v, ok, rfl, hu, hv, h64, HTW, bu, bv⟩
      have HU0 := Lib.hid HTW
      have HL0 := Lib.hid (show us.length = n ∧ vs.length = n ∧ (∀ z ∈ us, -(4294967296 + 2 * ((0 : Nat) : Int)) ≤ z ∧ z ≤ 4294967296 + 2 * ((0 : Nat) : Int)) ∧ ∀ z ∈ vs, -(4294967296 + 2 * ((0 : Nat) : Int)) ≤ z ∧ z ≤ 4294967296 + 2 * ((0 : Nat) : Int) from ⟨hu, hv, bu, bv⟩)
      clear HTW hu hv bu bv HP
      go_wp2_with fail
      go_loopw [93] (fun vi wr => ∃ (j : Nat) (us vs : List Int), vi = .int .i64 j ∧ j ≤ n ∧ Hid (TwoR v5 wr (.slice U n u) (.slice V n v) us vs) ∧ Hid (us.length = n ∧ vs.length = n ∧ (∀ z ∈ us, -(4294967296 + 2 * (j : Int)) ≤ z ∧ z ≤ 4294967296 + 2 * (j : Int)) ∧ ∀ z ∈ vs, -(4294967296 + 2 * (j : Int)) ≤ z ∧ z ≤ 4294967296 + 2 * (j : Int))) (fun vi _ => n - (intOf vi).toNat)
      case atStart => exact ⟨0, us, vs, rfl, Nat.zero_le _, HU0, HL0⟩
      case round =>
        clear HU0 HL0
        obtain ⟨j, us, vs, rfl, hj, HU, HL⟩ := hrel
        by_cases hjn : j < n
        · have j1 : (j : Int) < (n : Int) := by omega
          have j0 : (0 : Int) ≤ (j : Int) := by omega
          by_cases hji : j < i
          · have j2 : (j : Int) < (i : Int) := by omega
            obtain ⟨p, hp⟩ : ∃ p, x[j]? = some p := ⟨_, List.getElem?_eq_getElem (by omega)⟩
            obtain ⟨b, o, rfl, hb, hx1, hx2⟩ := HX.out.get hp
            obtain ⟨p1, p2⟩ := p
            obtain ⟨m1, hm1, r1, r2⟩ := tmod3 p1
            obtain ⟨m2, hm2, r3, r4⟩ := tmod3 p2
            obtain ⟨a1, ha1⟩ : ∃ a, us[j]? = some a := ⟨_, List.getElem?_eq_getElem (by have := HL.out.1; omega)⟩
            obtain ⟨a2, ha2⟩ : ∃ a, vs[j]? = some a := ⟨_, List.getElem?_eq_getElem (by have := HL.out.2.1; omega)⟩
            obtain ⟨gu, rfl⟩ := HU.out.form HL.out.1 (by omega)
            obtain ⟨gv, rfl⟩ := HU.out.formC HL.out.2.1 (by omega)
            have l1 := HL.out.2.2.1 a1 (List.mem_of_getElem? ha1)
            have l2 := HL.out.2.2.2 a2 (List.mem_of_getElem? ha2)
            have wm1 : IntKind.i64.wrap m1 = m1 := by rw [IntKind.wrap_i64]; omega
            have wm2 : IntKind.i64.wrap m2 = m2 := by rw [IntKind.wrap_i64]; omega
            have ws1 : IntKind.i64.wrap (a1 + m1) = a1 + m1 := by rw [IntKind.wrap_i64]; omega
            have ws2 : IntKind.i64.wrap (a2 + m2) = a2 + m2 := by rw [IntKind.wrap_i64]; omega
            have HX1 := Lib.hid hx1
            have HX2 := Lib.hid hx2
            have hx1 := ((bl_step bl5.out HU.out.bl).cell (p := ⟨b, o + j * 2, none⟩) hb).trans hx1
            obtain ⟨ca1, cf1⟩ := HU.out.cellR HL.out.1 ha1
            have HA2 := Lib.hid ha2
            have HL2 := Lib.hid (show (us.set j (a1 + m1)).length = n ∧ (vs.set j (a2 + m2)).length = n ∧ (∀ z ∈ us.set j (a1 + m1), -(4294967296 + 2 * ((j + 1 : Nat) : Int)) ≤ z ∧ z ≤ 4294967296 + 2 * ((j + 1 : Nat) : Int)) ∧ ∀ z ∈ vs.set j (a2 + m2), -(4294967296 + 2 * ((j + 1 : Nat) : Int)) ≤ z ∧ z ≤ 4294967296 + 2 * ((j + 1 : Nat) : Int) from
              ⟨by rw [List.length_set]; exact HL.out.1, by rw [List.length_set]; exact HL.out.2.1, set_in HL.out.2.2.1 (by omega) (by omega) (by omega), set_in HL.out.2.2.2 (by omega) (by omega) (by omega)⟩)
            clear hp ha1 ha2 hx2 l1 l2
            go_wp2_with fail
            refine wp_region_pre (S := fun w' => w'.cell? ⟨b, o + j * 2, none⟩ = some (.int .i64 p1) ∧ w'.cell? ⟨gu, j, none⟩ = some (.int .i64 a1)) 11 (by kernel_rfl) (by kernel_rfl) ?_ (fun hH0 => ?_)
            · exact ⟨hx1, ca1⟩
            refine PreG.take (i := 0) (v := ?vv18) rfl (by kernel_rfl) (by kernel_rfl) (fun _ _ _ h => h) (Or.inl ⟨by rfl, ?hy18⟩) (by assumption) ?rest18
            case hy18 => intro w hSw; (try dsimp only at hSw); first | (go_simp; done) | (go_simp; with_reducible rfl)
            try simp only [Act.put, List.getElem_toArray, List.getElem_cons_zero, List.getElem_cons_succ, List.setIfInBounds_toArray, List.set_cons_zero, List.set_cons_succ]
            refine PreG.take (i := 1) (v := ?vv19) rfl (by kernel_rfl) (by kernel_rfl) (fun _ _ _ h => h) (Or.inl ⟨by rfl, ?hy19⟩) (by assumption) ?rest19
            case hy19 => intro w hSw; (try dsimp only at hSw); first | (go_simp; done) | (go_simp; with_reducible rfl)
            try simp only [Act.put, List.getElem_toArray, List.getElem_cons_zero, List.getElem_cons_succ, List.setIfInBounds_toArray, List.set_cons_zero, List.set_cons_succ]
            refine PreG.take (i := 2) (v := ?vv20) rfl (by kernel_rfl) (by kernel_rfl) (fun _ _ _ h => h) (Or.inl ⟨by rfl, ?hy20⟩) (by assumption) ?rest20
            case hy20 => intro w hSw; (try dsimp only at hSw); first | (go_simp; done) | (go_simp; with_reducible rfl)
            try simp only [Act.put, List.getElem_toArray, List.getElem_cons_zero, List.getElem_cons_succ, List.setIfInBounds_toArray, List.set_cons_zero, List.set_cons_succ]
            refine PreG.take (i := 3) (v := ?vv21) rfl (by kernel_rfl) (by kernel_rfl) (fun _ _ _ h => h) (Or.inl ⟨by rfl, ?hy21⟩) (by assumption) ?rest21
            case hy21 => intro w hSw; (try dsimp only at hSw); first | (go_simp; done) | (go_simp; with_reducible rfl)
            try simp only [Act.put, List.getElem_toArray, List.getElem_cons_zero, List.getElem_cons_succ, List.setIfInBounds_toArray, List.set_cons_zero, List.set_cons_succ]
            refine PreG.take (i := 4) (v := ?vv22) rfl (by kernel_rfl) (by kernel_rfl) (fun _ _ _ h => h) (Or.inl ⟨by rfl, ?hy22⟩) (by assumption) ?rest22
            case hy22 => intro w hSw; (try dsimp only at hSw); first | (go_simp; done) | (go_simp; with_reducible rfl)
            try simp only [Act.put, List.getElem_toArray, List.getElem_cons_zero, List.getElem_cons_succ, List.setIfInBounds_toArray, List.set_cons_zero, List.set_cons_succ]
            refine PreG.take (i := 5) (v := ?vv23) rfl (by kernel_rfl) (by kernel_rfl) (fun _ _ _ h => h) (Or.inl ⟨by rfl, ?hy23⟩) (by assumption) ?rest23
            case hy23 => intro w hSw; (try dsimp only at hSw); first | (go_simp; done) | (go_simp; with_reducible rfl)
            try simp only [Act.put, List.getElem_toArray, List.getElem_cons_zero, List.getElem_cons_succ, List.setIfInBounds_toArray, List.set_cons_zero, List.set_cons_succ]
            refine PreG.take (i := 6) (v := ?vv24) rfl (by kernel_rfl) (by kernel_rfl) (fun _ _ _ h => h) (Or.inl ⟨by rfl, ?hy24⟩) (by assumption) ?rest24
            case hy24 => intro w hSw; (try dsimp only at hSw); first | (go_simp; done) | (go_simp; with_reducible rfl)
            try simp only [Act.put, List.getElem_toArray, List.getElem_cons_zero, List.getElem_cons_succ, List.setIfInBounds_toArray, List.set_cons_zero, List.set_cons_succ]
            refine PreG.take (i := 7) (v := ?vv25) rfl (by kernel_rfl) (by kernel_rfl) (fun _ _ _ h => h) (Or.inl ⟨by rfl, ?hy25⟩) (by assumption) ?rest25
            case hy25 => intro w hSw; (try dsimp only at hSw); first | (go_simp; done) | (go_simp; with_reducible rfl)
            try simp only [Act.put, List.getElem_toArray, List.getElem_cons_zero, List.getElem_cons_succ, List.setIfInBounds_toArray, List.set_cons_zero, List.set_cons_succ]
            refine PreG.take (i := 8) (v := ?vv26) rfl (by kernel_rfl) (by kernel_rfl) (fun _ _ _ h => h) (Or.inl ⟨by rfl, ?hy26⟩) (by assumption) ?rest26
            case hy26 => intro w hSw; (try dsimp only at hSw); first | (go_simp; done) | (go_simp; with_reducible rfl)
            try simp only [Act.put, List.getElem_toArray, List.getElem_cons_zero, List.getElem_cons_succ, List.setIfInBounds_toArray, List.set_cons_zero, List.set_cons_succ]
            refine PreG.take (i := 9) (v := ?vv27) rfl (by kernel_rfl) (by kernel_rfl) (fun _ _ _ h => h) (Or.inl ⟨by rfl, ?hy27⟩) (by assumption) ?rest27
            case hy27 => intro w hSw; (try dsimp only at hSw); first | (go_simp; done) | (go_simp; with_reducible rfl)
            try simp only [Act.put, List.getElem_toArray, List.getElem_cons_zero, List.getElem_cons_succ, List.setIfInBounds_toArray, List.set_cons_zero, List.set_cons_succ]
            refine PreG.take (i := 10) (v := ?vv28) rfl (by kernel_rfl) (by kernel_rfl) (fun _ _ _ h => h) (Or.inl ⟨by rfl, ?hy28⟩) (by assumption) ?rest28
            case hy28 => intro w hSw; (try dsimp only at hSw); first | (go_simp; done) | (go_simp; with_reducible rfl)
            try simp only [Act.put, List.getElem_toArray, List.getElem_cons_zero, List.getElem_cons_succ, List.setIfInBounds_toArray, List.set_cons_zero, List.set_cons_succ]
            refine PreG.done (by kernel_rfl) ?_
            simp only [List.drop_succ_cons, List.drop_zero]
            clear hH0
            have caD : wr.drew.cell? ⟨gu, j, none⟩ = some (.int .i64 a1) := ca1
            have cfD : wr.drew.frozen? ⟨gu, j, none⟩ = false := cf1
            go_wp2_with fail
            have H2 : Hid (TwoR v5 ((wr.setCell ⟨gu, j, none⟩ (.int .i64 (a1 + m1))).drew) (.slice (some ⟨gu, 0, none⟩) n u) (.slice (some ⟨gv, 0, none⟩) n v) (us.set j (a1 + m1)) vs) := Lib.hid ((HU.out.setR HL.out.1 hjn (a1 + m1)).below (bl_drew (Below.refl _ _)))
            clear caD cfD ca1 cf1 hx1
            generalize (wr.setCell ⟨gu, j, none⟩ (.int .i64 (a1 + m1))).drew = w2 at H2 ⊢
            have hx2 := ((bl_step bl5.out H2.out.bl).cell (p := ⟨b, o + j * 2 + 1, none⟩) hb).trans HX2.out
            obtain ⟨ca2, cf2⟩ := H2.out.cellC HL.out.2.1 HA2.out
            refine wp_region_pre (S := fun w' => w'.cell? ⟨b, o + j * 2 + 1, none⟩ = some (.int .i64 p2) ∧ w'.cell? ⟨gv, j, none⟩ = some (.int .i64 a2)) 11 (by kernel_rfl) (by kernel_rfl) ?_ (fun hH0 => ?_)
            · exact ⟨hx2, ca2⟩
            refine PreG.take (i := 0) (v := ?vv29) rfl (by kernel_rfl) (by kernel_rfl) (fun _ _ _ h => h) (Or.inl ⟨by rfl, ?hy29⟩) (by assumption) ?rest29
            case hy29 => intro w hSw; (try dsimp only at hSw); first | (go_simp; done) | (go_simp; with_reducible rfl)
            try simp only [Act.put, List.getElem_toArray, List.getElem_cons_zero, List.getElem_cons_succ, List.setIfInBounds_toArray, List.set_cons_zero, List.set_cons_succ]
            refine PreG.take (i := 1) (v := ?vv30) rfl (by kernel_rfl) (by kernel_rfl) (fun _ _ _ h => h) (Or.inl ⟨by rfl, ?hy30⟩) (by assumption) ?rest30
            case hy30 => intro w hSw; (try dsimp only at hSw); first | (go_simp; done) | (go_simp; with_reducible rfl)
            try simp only [Act.put, List.getElem_toArray, List.getElem_cons_zero, List.getElem_cons_succ, List.setIfInBounds_toArray, List.set_cons_zero, List.set_cons_succ]
            refine PreG.take (i := 2) (v := ?vv31) rfl (by kernel_rfl) (by kernel_rfl) (fun _ _ _ h => h) (Or.inl ⟨by rfl, ?hy31⟩) (by assumption) ?rest31
            case hy31 => intro w hSw; (try dsimp only at hSw); first | (go_simp; done) | (go_simp; with_reducible rfl)
            try simp only [Act.put, List.getElem_toArray, List.getElem_cons_zero, List.getElem_cons_succ, List.setIfInBounds_toArray, List.set_cons_zero, List.set_cons_succ]
            refine PreG.take (i := 3) (v := ?vv32) rfl (by kernel_rfl) (by kernel_rfl) (fun _ _ _ h => h) (Or.inl ⟨by rfl, ?hy32⟩) (by assumption) ?rest32
            case hy32 => intro w hSw; (try dsimp only at hSw); first | (go_simp; done) | (go_simp; with_reducible rfl)
            try simp only [Act.put, List.getElem_toArray, List.getElem_cons_zero, List.getElem_cons_succ, List.setIfInBounds_toArray, List.set_cons_zero, List.set_cons_succ]
            refine PreG.take (i := 4) (v := ?vv33) rfl (by kernel_rfl) (by kernel_rfl) (fun _ _ _ h => h) (Or.inl ⟨by rfl, ?hy33⟩) (by assumption) ?rest33
            case hy33 => intro w hSw; (try dsimp only at hSw); first | (go_simp; done) | (go_simp; with_reducible rfl)
            try simp only [Act.put, List.getElem_toArray, List.getElem_cons_zero, List.getElem_cons_succ, List.setIfInBounds_toArray, List.set_cons_zero, List.set_cons_succ]
            refine PreG.take (i := 5) (v := ?vv34) rfl (by kernel_rfl) (by kernel_rfl) (fun _ _ _ h => h) (Or.inl ⟨by rfl, ?hy34⟩) (by assumption) ?rest34
            case hy34 => intro w hSw; (try dsimp only at hSw); first | (go_simp; done) | (go_simp; with_reducible rfl)
            try simp only [Act.put, List.getElem_toArray, List.getElem_cons_zero, List.getElem_cons_succ, List.setIfInBounds_toArray, List.set_cons_zero, List.set_cons_succ]
            refine PreG.take (i := 6) (v := ?vv35) rfl (by kernel_rfl) (by kernel_rfl) (fun _ _ _ h => h) (Or.inl ⟨by rfl, ?hy35⟩) (by assumption) ?rest35
            case hy35 => intro w hSw; (try dsimp only at hSw); first | (go_simp; done) | (go_simp; with_reducible rfl)
            try simp only [Act.put, List.getElem_toArray, List.getElem_cons_zero, List.getElem_cons_succ, List.setIfInBounds_toArray, List.set_cons_zero, List.set_cons_succ]
            refine PreG.take (i := 7) (v := ?vv36) rfl (by kernel_rfl) (by kernel_rfl) (fun _ _ _ h => h) (Or.inl ⟨by rfl, ?hy36⟩) (by assumption) ?rest36
            case hy36 => intro w hSw; (try dsimp only at hSw); first | (go_simp; done) | (go_simp; with_reducible rfl)
            try simp only [Act.put, List.getElem_toArray, List.getElem_cons_zero, List.getElem_cons_succ, List.setIfInBounds_toArray, List.set_cons_zero, List.set_cons_succ]
            refine PreG.take (i := 8) (v := ?vv37) rfl (by kernel_rfl) (by kernel_rfl) (fun _ _ _ h => h) (Or.inl ⟨by rfl, ?hy37⟩) (by assumption) ?rest37
            case hy37 => intro w hSw; (try dsimp only at hSw); first | (go_simp; done) | (go_simp; with_reducible rfl)
            try simp only [Act.put, List.getElem_toArray, List.getElem_cons_zero, List.getElem_cons_succ, List.setIfInBounds_toArray, List.set_cons_zero, List.set_cons_succ]
            refine PreG.take (i := 9) (v := ?vv38) rfl (by kernel_rfl) (by kernel_rfl) (fun _ _ _ h => h) (Or.inl ⟨by rfl, ?hy38⟩) (by assumption) ?rest38
            case hy38 => intro w hSw; (try dsimp only at hSw); first | (go_simp; done) | (go_simp; with_reducible rfl)
            try simp only [Act.put, List.getElem_toArray, List.getElem_cons_zero, List.getElem_cons_succ, List.setIfInBounds_toArray, List.set_cons_zero, List.set_cons_succ]
            refine PreG.take (i := 10) (v := ?vv39) rfl (by kernel_rfl) (by kernel_rfl) (fun _ _ _ h => h) (Or.inl ⟨by rfl, ?hy39⟩) (by assumption) ?rest39
            case hy39 => intro w hSw; (try dsimp only at hSw); first | (go_simp; done) | (go_simp; with_reducible rfl)
            try simp only [Act.put, List.getElem_toArray, List.getElem_cons_zero, List.getElem_cons_succ, List.setIfInBounds_toArray, List.set_cons_zero, List.set_cons_succ]
            refine PreG.done (by kernel_rfl) ?_
            simp only [List.drop_succ_cons, List.drop_zero]
            clear hH0
            have caD : w2.drew.cell? ⟨gv, j, none⟩ = some (.int .i64 a2) := ca2
            have cfD : w2.drew.frozen? ⟨gv, j, none⟩ = false := cf2
            have H3 := Lib.hid ((H2.out.setC HL.out.2.1 hjn (a2 + m2)).below (bl_drew (Below.refl _ _)))
            go_wp2_with fail
            go_roundw
            case rel => exact ⟨j + 1, _, _, by go_num, by omega, H3, HL2⟩
            case measure => simp only [intOf]; omega
          · have j2 : ¬ (j : Int) < (i : Int) := by omega
            go_wp2_with fail
            go_roundw
            case rel => exact ⟨j + 1, us, vs, by go_num, by omega, HU, Lib.hid ⟨HL.out.1, HL.out.2.1, fun z hz => by have := HL.out.2.2.1 z hz; omega, fun z hz => by have := HL.out.2.2.2 z hz; omega⟩⟩
            case measure => simp only [intOf]; omega
        · obtain rfl : j = n := by omega
          obtain ⟨hu, hv, bu, bv⟩ := HL.out
          obtain ⟨z2, f2, hb1, hb2⟩ := both_bounds d q us vs D Q U V dd qq u v j v5 wr (HD5.out.below HU.out.bl) HU.out hu hv (by omega) (fun y hy => by have := bu y hy; exact ⟨by omega, by omega⟩) (fun y hy => by have := bv y hy; exact ⟨by omega, by omega⟩)
          have HB1 := Lib.hid hb1
          have HB2 := Lib.hid hb2
          clear hu hv bu bv HL hjn hb1 hb2
          go_wp2_with fail
          (with_reducible refine (HB1.out _ (Below.refl _ _)).mono ?_); rintro e v7 ⟨rfl, hb7⟩
          go_wp2_with fail
          (with_reducible refine (HB2.out _ hb7).mono ?_); rintro e v8 ⟨rfl, hb8⟩
          go_wp2
          go_ret
          exact ⟨rfl, bl_step (bl_step bl5.out HU.out.bl) (bl_step hb7 hb8)⟩
end Go.Proofs.Ytamfhommmogknaa
