/- The walk of knapsack. -/
import Derived.Test.YtklomjpnmmaogaaDoorPE
import Derived.LoopTactic
import Derived.Deep.LoopGhost
namespace Go.Proofs.YtklomjpnmmaogaaDoor
open Go Go.RowKit
set_option linter.unusedVariables false
set_option linter.unusedSimpArgs false
set_option maxRecDepth 100000

section
variable {w : World} {g c at_ : Nat} {A : Option Addr} {L : List Tok}
set_option maxHeartbeats 6400000 in
theorem knap_any (h : Rd w g A c L at_) : Calls Tryd.prog 77 #[.pointer (some ⟨g, 0, none⟩)] w fun e w' => Rp w g A c L (knapP (L.drop at_)) (KV w) e w' := by
  obtain ⟨T, hT⟩ : ∃ T, knapP (L.drop at_) = T := ⟨_, rfl⟩
  rw [hT]
  unfold knapP at hT
  have hgl := h.gl
  have h0 := h.below (bl_alloc (Below.refl _ _) (.cells #[.int .i64 0, .int .i64 0, .slice none 0 0, .slice none 0 0, .int .i64 0, .slice none 0 0] 27))
  have R0 : Blk (w.alloc (.cells #[.int .i64 0, .int .i64 0, .slice none 0 0, .slice none 0 0, .int .i64 0, .slice none 0 0] 27)) w.heap.size 27 #[.int .i64 0, .int .i64 0, .slice none 0 0, .slice none 0 0, .int .i64 0, .slice none 0 0] := Blk.new _ _ _
  have G0 := (Gr.refl w g).alloc (.cells #[.int .i64 0, .int .i64 0, .slice none 0 0, .slice none 0 0, .int .i64 0, .slice none 0 0] 27)
  have HW := Lib.hid (word_any h0 wCap)
  clear h
  go_enter Tryd.func77, Tryd.ntmps77
  go_wp2_with fail
  refine HW.out.mono ?_; rintro e V1 ⟨hG1, ⟨_, _, _, hp, rfl⟩ | ⟨_, n1, hp, rfl, R1⟩⟩
  · rw [hp, PR.bind_bad] at hT
    exact ⟨rfl, G0.step hG1, .inl ⟨_, _, _, hT.symm, rfl⟩⟩
  · rw [hp, PR.bind_ok] at hT
    have RB1 := R0.gr hG1 (by omega)
    have G1 := G0.step hG1
    have HS := Lib.hid (size_any R1)
    clear HW R0 G0 h0 hp hG1
    go_wp2_with fail
    refine HS.out.mono ?_; rintro e V2 ⟨hG2, ⟨_, _, _, hp, rfl⟩ | ⟨C, n2, hp, rfl, R2⟩⟩
    · rw [hp, PR.bind_bad] at hT
      exact ⟨rfl, G1.step hG2, .inl ⟨_, _, _, hT.symm, rfl⟩⟩
    · rw [hp, PR.bind_ok] at hT
      have RB2 := RB1.gr hG2 (by omega)
      have hlt := RB2.lt
      have FR : FrR (V2.alloc (.cells #[.int .i64 0, .int .i64 C, .slice none 0 0, .slice none 0 0, .int .i64 0, .slice none 0 0] 27)) w g A c L V2.heap.size n2 #[.int .i64 0, .int .i64 C, .slice none 0 0, .slice none 0 0, .int .i64 0, .slice none 0 0] :=
        ⟨(G1.step hG2).alloc _, R2.below (bl_alloc (Below.refl _ _) _), RB2.alloc _, Blk.new _ _ _, hlt, hgl⟩
      have hs0 : V2.heap.size + 1 ≤ (V2.alloc (.cells #[.int .i64 0, .int .i64 C, .slice none 0 0, .slice none 0 0, .int .i64 0, .slice none 0 0] 27)).heap.size := by simp only [World.alloc, Array.size_push]; omega
      have hacc : (itemsP (L.drop n2).length [] (L.drop n2)).bind (fun xs l3 => .ok ⟨0, C, xs, [], 0, []⟩ l3) = T := hT
      clear HS R1 RB1 G1 RB2 hT hp hG2 R2 hlt
      go_wp2_with fail
      generalize V2.alloc (.cells #[.int .i64 0, .int .i64 C, .slice none 0 0, .slice none 0 0, .int .i64 0, .slice none 0 0] 27) = X at FR hs0 ⊢
      generalize V2.heap.size = q at FR hs0 ⊢
      go_loopg [] L.length (fun gf wr => ∃ (f at_ : Nat) (acc : List (Int × Int)) (D : Option Addr) (d : Nat), FrR wr w g A c L q at_ #[.int .i64 0, .int .i64 C, .slice D acc.length d, .slice none 0 0, .int .i64 0, .slice none 0 0] ∧ OwnP wr (q + 1) 82 (.slice D acc.length d) acc ∧ (itemsP f acc (L.drop at_)).bind (fun xs l3 => .ok ⟨0, C, xs, [], 0, []⟩ l3) = T ∧ (L.drop at_).length ≤ f ∧ f ≤ gf ∧ acc.length ≤ 4096)
      case atStart => exact ⟨_, n2, [], none, 0, FR, own_nil _ _ _ _, hacc, Nat.le_refl _, by rw [List.length_drop]; omega, by simp⟩
      case round =>
        clear FR hs0 hacc
        obtain ⟨f, at_, acc, D, d, FR, HO, hI, hf, hgf, h4⟩ := hrel
        have hq := FR.hq
        have HI := Lib.hid (ris_any FR.rd wItem)
        have hpos := FR.rd.ends.pos
        obtain ⟨f', rfl⟩ : ∃ f', f = f' + 1 := ⟨f - 1, by omega⟩
        obtain ⟨gk', rfl⟩ : ∃ g', gk = g' + 1 := ⟨gk - 1, by omega⟩
        rw [itemsP] at hI
        obtain ⟨b, hb⟩ : ∃ b, isP wItem (L.drop at_) = b := ⟨_, rfl⟩
        rw [hb] at HI hI
        cases b with
        | true =>
          have hk : ¬ (headT (L.drop at_)).kind = 3 := by unfold isP at hb; simp only [Bool.and_eq_true, decide_eq_true_eq] at hb; omega
          have hlen : (L.drop (at_ + 1)).length + 1 = (L.drop at_).length := by have := FR.rd.lt; rw [List.length_drop, List.length_drop]; omega
          simp only [if_true] at hI
          go_wp2_with fail
          refine HI.out.mono ?_; rintro e V1 ⟨rfl, hb1⟩
          have F1 := FR.below hb1
          have O1 := HO.below hb1
          have HR := Lib.hid (room_any F1.rd acc.length)
          clear HI FR HO hb hb1 hpos
          have r_z : q < V1.heap.size := F1.box.lt
          have r_c0 : V1.cell? ⟨q, 0, none⟩ = some (.int .i64 0) := (F1.box.cell 0).trans rfl
          have r_f0 := F1.box.frozen 0
          have r_c1 : V1.cell? ⟨q, 1, none⟩ = some (.int .i64 C) := (F1.box.cell 1).trans rfl
          have r_f1 := F1.box.frozen 1
          have r_c2 : V1.cell? ⟨q, 2, none⟩ = some (.slice D acc.length d) := (F1.box.cell 2).trans rfl
          have r_f2 := F1.box.frozen 2
          have r_c3 : V1.cell? ⟨q, 3, none⟩ = some (.slice none 0 0) := (F1.box.cell 3).trans rfl
          have r_f3 := F1.box.frozen 3
          have r_c4 : V1.cell? ⟨q, 4, none⟩ = some (.int .i64 0) := (F1.box.cell 4).trans rfl
          have r_f4 := F1.box.frozen 4
          have r_c5 : V1.cell? ⟨q, 5, none⟩ = some (.slice none 0 0) := (F1.box.cell 5).trans rfl
          have r_f5 := F1.box.frozen 5
          go_wp2_with fail
          refine HR.out.mono ?_; rintro e V2 ⟨hb2, ⟨hn, rfl⟩ | ⟨hn, rfl⟩⟩
          · rw [if_pos hn] at hI
            exact ⟨rfl, F1.gr.below hb2, .inl ⟨_, _, _, hI.symm, rfl⟩⟩
          · rw [if_neg (by omega)] at hI
            have F2 := F1.below hb2
            have O2 := O1.below hb2
            obtain ⟨htl, F3⟩ := F2.next hk
            have i0 := F2.wrap
            have O3 := OwnP.rd_ O2 ((Gr.refl V2 g).set (p := ⟨g, 1, none⟩) (.inl rfl) (.int .i64 ((at_ : Int) + 1))) (by omega)
            rw [← htl] at hI
            have B2 := F2.rd.box
            clear HR F1 O1 hb2 F2 O2 htl hk
            clear r_z r_c0 r_f0 r_c1 r_f1 r_c2 r_f2 r_c3 r_f3 r_c4 r_f4 r_c5 r_f5
            have s_z : g < V2.heap.size := B2.lt
            have s_c0 : V2.cell? ⟨g, 0, none⟩ = some (.slice A L.length c) := (B2.cell 0).trans rfl
            have s_f0 := B2.frozen 0
            have s_c1 : V2.cell? ⟨g, 1, none⟩ = some (.int .i64 at_) := (B2.cell 1).trans rfl
            have s_f1 := B2.frozen 1
            go_wp2_with fail
            clear B2 s_z s_c0 s_f0 s_c1 s_f1 i0
            generalize V2.setCell ⟨g, 1, none⟩ (.int .i64 ((at_ : Int) + 1)) = V3 at F3 O3 ⊢
            refine (size_any F3.rd).mono ?_; rintro e V4 ⟨hG4, ⟨_, _, _, hp, rfl⟩ | ⟨v, n4, hp, rfl, R4⟩⟩
            · rw [hp, PR.bind_bad] at hI
              exact ⟨rfl, F3.gr.step hG4, .inl ⟨_, _, _, hI.symm, rfl⟩⟩
            · rw [hp, PR.bind_ok] at hI
              have l4 := num_len hp
              have F4 := F3.meth hG4 R4
              have O4 := O3.rd_ hG4 (by omega)
              clear F3 O3 hG4 R4 hp
              go_wp2_with fail
              refine wp_region_pre (S := fun w' => w'.cell? ⟨q, 2, none⟩ = some (.slice D acc.length d)) 8 (by kernel_rfl) (by kernel_rfl) ?_ (fun hH0 => ?_)
              · exact ((F4.below (bl_drew (Below.refl _ _))).box.cell 2).trans rfl
              refine PreG.take (i := 0) (v := ?vv1) rfl (by kernel_rfl) (by kernel_rfl) (fun _ _ _ h => h) (Or.inl ⟨by rfl, ?hy1⟩) (by assumption) ?rest1
              case hy1 => intro w hSw; (try dsimp only at hSw); first | (go_simp; done) | (go_simp; with_reducible rfl)
              try simp only [Act.put, List.getElem_toArray, List.getElem_cons_zero, List.getElem_cons_succ, List.setIfInBounds_toArray, List.set_cons_zero, List.set_cons_succ]
              refine PreG.take (i := 1) (v := ?vv2) rfl (by kernel_rfl) (by kernel_rfl) (fun _ _ _ h => h) (Or.inl ⟨by rfl, ?hy2⟩) (by assumption) ?rest2
              case hy2 => intro w hSw; (try dsimp only at hSw); first | (go_simp; done) | (go_simp; with_reducible rfl)
              try simp only [Act.put, List.getElem_toArray, List.getElem_cons_zero, List.getElem_cons_succ, List.setIfInBounds_toArray, List.set_cons_zero, List.set_cons_succ]
              refine PreG.take (i := 2) (v := ?vv3) rfl (by kernel_rfl) (by kernel_rfl) (fun _ _ _ h => h) (Or.inl ⟨by rfl, ?hy3⟩) (by assumption) ?rest3
              case hy3 => intro w hSw; (try dsimp only at hSw); first | (go_simp; done) | (go_simp; with_reducible rfl)
              try simp only [Act.put, List.getElem_toArray, List.getElem_cons_zero, List.getElem_cons_succ, List.setIfInBounds_toArray, List.set_cons_zero, List.set_cons_succ]
              refine PreG.take (i := 3) (v := ?vv4) rfl (by kernel_rfl) (by kernel_rfl) (fun _ _ _ h => h) (Or.inl ⟨by rfl, ?hy4⟩) (by assumption) ?rest4
              case hy4 => intro w hSw; (try dsimp only at hSw); first | (go_simp; done) | (go_simp; with_reducible rfl)
              try simp only [Act.put, List.getElem_toArray, List.getElem_cons_zero, List.getElem_cons_succ, List.setIfInBounds_toArray, List.set_cons_zero, List.set_cons_succ]
              refine PreG.ready (rs := [4]) (by kernel_rfl) (by kernel_rfl) ?_
              refine AllPre.cons rfl (fun K hK => ?_) ?_
              · have K5 := F4.drew
                have O5 := O4.below (bl_drew (Below.refl _ _))
                clear F4 O4
                go_simp
                refine (size_any K5.rd).mono ?_
                rintro e X5 ⟨hG5, ⟨_, _, _, hp5, rfl⟩ | ⟨x, n5, hp5, rfl, R5⟩⟩
                · rw [hp5, PR.bind_bad] at hI; exact ⟨rfl, K5.gr.step hG5, .inl ⟨_, _, _, hI.symm, rfl⟩⟩
                rw [hp5, PR.bind_ok] at hI
                have l5 := num_len hp5
                have P5 := K5.meth hG5 R5
                have U5 := O5.rd_ hG5 (by omega)
                clear K5 O5 hG5 R5 hp5
                go_wp2_with fail
                refine hK.out _ _ ?_ (fun hH1 => ?_)
                · exact (P5.box.cell 2).trans rfl
                clear hK K hH0
                try simp only [Act.put, List.getElem_toArray, List.getElem_cons_zero, List.getElem_cons_succ, List.setIfInBounds_toArray, List.set_cons_zero, List.set_cons_succ]
                refine PreG.ready (rs := [5]) (by kernel_rfl) (by kernel_rfl) ?_
                refine AllPre.cons rfl (fun K hK => ?_) ?_
                · go_simp
                  refine hK.out _ _ ?_ (fun hH2 => ?_)
                  · exact (P5.box.cell 2).trans rfl
                  clear hK K hH1
                  try simp only [Act.put, List.getElem_toArray, List.getElem_cons_zero, List.getElem_cons_succ, List.setIfInBounds_toArray, List.set_cons_zero, List.set_cons_succ]
                  refine PreG.ready (rs := [6]) (by kernel_rfl) (by kernel_rfl) ?_
                  refine AllPre.cons rfl (fun K hK => ?_) ?_
                  · go_simp
                    refine hK.out _ _ ?_ (fun hH3 => ?_)
                    · exact ((P5.below (bl_alloc (Below.refl _ _) _)).box.cell 2).trans rfl
                    clear hK K hH2
                    try simp only [Act.put, List.getElem_toArray, List.getElem_cons_zero, List.getElem_cons_succ, List.setIfInBounds_toArray, List.set_cons_zero, List.set_cons_succ]
                    refine PreG.ready (rs := [7]) (by kernel_rfl) (by kernel_rfl) ?_
                    refine AllPre.cons rfl (fun K hK => ?_) ?_
                    · have NB8 : Blk (X5.alloc (.cells #[.int .i64 v, .int .i64 x] 82)) X5.heap.size 82 #[.int .i64 v, .int .i64 x] := Blk.new _ _ _
                      obtain ⟨D8, d8, Y8, hrun8, Q8, hgr8⟩ := p_pair (ty := 23) Tryd.underlying23 pinfo_P (U5.below (bl_alloc (Below.refl _ _) (.cells #[.int .i64 v, .int .i64 x] 82))) NB8 (by omega) (P5.alloc (.cells #[.int .i64 v, .int .i64 x] 82)).size
                      have M8 := (P5.alloc (.cells #[.int .i64 v, .int .i64 x] 82)).grown (own_base U5) hgr8
                      refine step_run rfl _ _ _ rfl hrun8 ?_
                      clear NB8 hrun8 hgr8 P5 U5
                      refine hK.out _ _ ?_ (fun hH4 => ?_)
                      · exact (M8.box.cell 2).trans rfl
                      clear hK K hH3
                      try simp only [Act.put, List.getElem_toArray, List.getElem_cons_zero, List.getElem_cons_succ, List.setIfInBounds_toArray, List.set_cons_zero, List.set_cons_succ]
                      refine PreG.done (by kernel_rfl) ?_
                      simp only [List.drop_succ_cons, List.drop_zero]
                      clear hH4
                      have BX := M8.box
                      have x_z : q < Y8.heap.size := BX.lt
                      have x_c0 : Y8.cell? ⟨q, 0, none⟩ = some (.int .i64 0) := (BX.cell 0).trans rfl
                      have x_f0 := BX.frozen 0
                      have x_c1 : Y8.cell? ⟨q, 1, none⟩ = some (.int .i64 C) := (BX.cell 1).trans rfl
                      have x_f1 := BX.frozen 1
                      have x_c2 : Y8.cell? ⟨q, 2, none⟩ = some (.slice D acc.length d) := (BX.cell 2).trans rfl
                      have x_f2 := BX.frozen 2
                      have x_c3 : Y8.cell? ⟨q, 3, none⟩ = some (.slice none 0 0) := (BX.cell 3).trans rfl
                      have x_f3 := BX.frozen 3
                      have x_c4 : Y8.cell? ⟨q, 4, none⟩ = some (.int .i64 0) := (BX.cell 4).trans rfl
                      have x_f4 := BX.frozen 4
                      have x_c5 : Y8.cell? ⟨q, 5, none⟩ = some (.slice none 0 0) := (BX.cell 5).trans rfl
                      have x_f5 := BX.frozen 5
                      go_wp2_with fail
                      go_roundg gk'
                      case measure => omega
                      case rel => exact ⟨f', _, acc ++ [(v, x)], D8, d8, by rw [List.length_append]; exact M8.put 2 _ rfl, by rw [List.length_append]; exact OwnP.set (p := ⟨q, 2, none⟩) Q8 (Nat.lt_succ_self q) _, hI, by omega, by omega, by rw [List.length_append]; show _ + 1 ≤ _; omega⟩
                    exact AllPre.nil
                  exact AllPre.nil
                exact AllPre.nil
              exact AllPre.nil
        | false =>
          simp only [Bool.false_eq_true, if_false] at hI
          go_wp2_with fail
          refine HI.out.mono ?_; rintro e V1 ⟨rfl, hb1⟩
          have F1 := FR.below hb1
          have O1 := HO.below hb1
          clear HI FR HO hb1
          have e1 : ¬ q = w.heap.size := by omega
          have e2 : ¬ w.heap.size = q := by omega
          have e3 : ¬ q = g := by have := F1.hg; omega
          have e4 : ¬ g = q := by omega
          have r_z : q < V1.heap.size := F1.box.lt
          have r_c0 : V1.cell? ⟨q, 0, none⟩ = some (.int .i64 0) := (F1.box.cell 0).trans rfl
          have r_f0 := F1.box.frozen 0
          have r_c1 : V1.cell? ⟨q, 1, none⟩ = some (.int .i64 C) := (F1.box.cell 1).trans rfl
          have r_f1 := F1.box.frozen 1
          have r_c2 : V1.cell? ⟨q, 2, none⟩ = some (.slice D acc.length d) := (F1.box.cell 2).trans rfl
          have r_f2 := F1.box.frozen 2
          have r_c3 : V1.cell? ⟨q, 3, none⟩ = some (.slice none 0 0) := (F1.box.cell 3).trans rfl
          have r_f3 := F1.box.frozen 3
          have r_c4 : V1.cell? ⟨q, 4, none⟩ = some (.int .i64 0) := (F1.box.cell 4).trans rfl
          have r_f4 := F1.box.frozen 4
          have r_c5 : V1.cell? ⟨q, 5, none⟩ = some (.slice none 0 0) := (F1.box.cell 5).trans rfl
          have r_f5 := F1.box.frozen 5
          have z_z : w.heap.size < V1.heap.size := F1.res.lt
          have z_c0 : V1.cell? ⟨w.heap.size, 0, none⟩ = some (.int .i64 0) := (F1.res.cell 0).trans rfl
          have z_f0 := F1.res.frozen 0
          have z_c1 : V1.cell? ⟨w.heap.size, 1, none⟩ = some (.int .i64 0) := (F1.res.cell 1).trans rfl
          have z_f1 := F1.res.frozen 1
          have z_c2 : V1.cell? ⟨w.heap.size, 2, none⟩ = some (.slice none 0 0) := (F1.res.cell 2).trans rfl
          have z_f2 := F1.res.frozen 2
          have z_c3 : V1.cell? ⟨w.heap.size, 3, none⟩ = some (.slice none 0 0) := (F1.res.cell 3).trans rfl
          have z_f3 := F1.res.frozen 3
          have z_c4 : V1.cell? ⟨w.heap.size, 4, none⟩ = some (.int .i64 0) := (F1.res.cell 4).trans rfl
          have z_f4 := F1.res.frozen 4
          have z_c5 : V1.cell? ⟨w.heap.size, 5, none⟩ = some (.slice none 0 0) := (F1.res.cell 5).trans rfl
          have z_f5 := F1.res.frozen 5
          go_wp2_with fail
          refine bodyPost_ret (v := .agg #[.int .i64 0, .int .i64 C, .slice D acc.length d, .slice none 0 0, .int .i64 0, .slice none 0 0]) (by simp [results, Tryd.results77, go_sem, e1, e2, z_z, z_c0, z_c1, z_c2, z_c3, z_c4, z_c5, z_f0, z_f1, z_f2, z_f3, z_f4, z_f5]) rfl ?_
          exact F1.fin (I := ⟨0, C, acc, [], 0, []⟩) (D2 := none) (d2 := 0) (D3 := none) (d3 := 0) rfl ⟨O1, r_nil _ _ _ _, s_nil _ _ _ _⟩ hI.symm
end
end Go.Proofs.YtklomjpnmmaogaaDoor
