/- The walk of whole. -/
import Derived.Test.YtklomjpnmmaogaaDoorPF
import Derived.Test.YtklomjpnmmaogaaDoorPH
import Derived.Test.YtklomjpnmmaogaaDoorPI
import Derived.Test.YtklomjpnmmaogaaDoorIN
namespace Go.Proofs.YtklomjpnmmaogaaDoor
open Go Go.RowKit
set_option linter.unusedVariables false
set_option linter.unusedSimpArgs false
set_option maxRecDepth 100000

section
variable {w wr : World} {g c at_ q : Nat} {A : Option Addr} {L : List Tok} {cs : Array Value}
theorem FrR.put6 {a b c' d e f a' b' c2 d' e' f' : Value} (h : FrR wr w g A c L q at_ #[a, b, c', d, e, f]) : FrR ((((((wr.setCell ⟨q, 0, none⟩ a').setCell ⟨q, 1, none⟩ b').setCell ⟨q, 2, none⟩ c2).setCell ⟨q, 3, none⟩ d').setCell ⟨q, 4, none⟩ e').setCell ⟨q, 5, none⟩ f') w g A c L q at_ #[a', b', c2, d', e', f'] :=
  (((((h.put 0 a' rfl).put 1 b' rfl).put 2 c2 rfl).put 3 d' rfl).put 4 e' rfl).put 5 f' rfl
theorem name_w (k : Int) (s : List UInt8) (he : nameR k = ⟨s.toArray⟩) (w : World) (hw : NamesW w) : Calls Tryd.prog 62 #[.int .i64 k] w fun e w' => e = .returned (.string ⟨s.toArray⟩) ∧ Below w.heap.size w w' := by
  rw [← he]
  exact name_any k w hw
set_option maxHeartbeats 12800000 in
theorem whole_any (h : Rd w g A c L at_) (hN : NamesW w) : Calls Tryd.prog 53 #[.pointer (some ⟨g, 0, none⟩)] w fun e w' => Rp w g A c L (wholeP (L.drop at_)) (KV w) e w' := by
  obtain ⟨T, hT⟩ : ∃ T, wholeP (L.drop at_) = T := ⟨_, rfl⟩
  rw [hT]
  unfold wholeP bodyP at hT
  have hgl := h.gl
  have h0 := (h.below (bl_alloc (Below.refl _ _) (.cells #[.int .i64 0, .int .i64 0, .slice none 0 0, .slice none 0 0, .int .i64 0, .slice none 0 0] 27))).below (bl_alloc (Below.refl _ _) (.cells #[.int .i64 0, .int .i64 0, .slice none 0 0, .slice none 0 0, .int .i64 0, .slice none 0 0] 27))
  have R0 : Blk ((w.alloc (.cells #[.int .i64 0, .int .i64 0, .slice none 0 0, .slice none 0 0, .int .i64 0, .slice none 0 0] 27)).alloc (.cells #[.int .i64 0, .int .i64 0, .slice none 0 0, .slice none 0 0, .int .i64 0, .slice none 0 0] 27)) w.heap.size 27 #[.int .i64 0, .int .i64 0, .slice none 0 0, .slice none 0 0, .int .i64 0, .slice none 0 0] := (Blk.new _ _ _).alloc _
  have B0 : Blk ((w.alloc (.cells #[.int .i64 0, .int .i64 0, .slice none 0 0, .slice none 0 0, .int .i64 0, .slice none 0 0] 27)).alloc (.cells #[.int .i64 0, .int .i64 0, .slice none 0 0, .slice none 0 0, .int .i64 0, .slice none 0 0] 27)) (w.heap.size + 1) 27 #[.int .i64 0, .int .i64 0, .slice none 0 0, .slice none 0 0, .int .i64 0, .slice none 0 0] := Blk.new' (by simp) _ _
  have G0 := ((Gr.refl w g).alloc (.cells #[.int .i64 0, .int .i64 0, .slice none 0 0, .slice none 0 0, .int .i64 0, .slice none 0 0] 27)).alloc (.cells #[.int .i64 0, .int .i64 0, .slice none 0 0, .slice none 0 0, .int .i64 0, .slice none 0 0] 27)
  have FR : FrR ((w.alloc (.cells #[.int .i64 0, .int .i64 0, .slice none 0 0, .slice none 0 0, .int .i64 0, .slice none 0 0] 27)).alloc (.cells #[.int .i64 0, .int .i64 0, .slice none 0 0, .slice none 0 0, .int .i64 0, .slice none 0 0] 27)) w g A c L (w.heap.size + 1) at_ #[.int .i64 0, .int .i64 0, .slice none 0 0, .slice none 0 0, .int .i64 0, .slice none 0 0] := ⟨G0, h0, R0, B0, Nat.lt_succ_self _, hgl⟩
  have N0 := hN.below (bl_alloc (bl_alloc (Below.refl _ w) (.cells #[.int .i64 0, .int .i64 0, .slice none 0 0, .slice none 0 0, .int .i64 0, .slice none 0 0] 27)) (.cells #[.int .i64 0, .int .i64 0, .slice none 0 0, .slice none 0 0, .int .i64 0, .slice none 0 0] 27) )
  clear h h0 R0 B0 G0 hN
  go_enter Tryd.func53, Tryd.ntmps53
  go_wp2_with fail
  refine (name_w 0 wKnap (by rfl) _ N0).mono ?_; rintro e V1 ⟨rfl, hb1⟩
  have F1 := FR.below hb1
  have N1 := N0.below hb1
  have HI := Lib.hid (ris_any F1.rd wKnap)
  clear FR N0 hb1
  obtain ⟨b, hb⟩ : ∃ b, isP wKnap (L.drop at_) = b := ⟨_, rfl⟩
  rw [hb] at HI hT
  cases b with
  | true =>
    simp only [if_true] at hT
    have hk : ¬ (headT (L.drop at_)).kind = 3 := by unfold isP at hb; simp only [Bool.and_eq_true, decide_eq_true_eq] at hb; omega
    go_wp2_with fail
    refine HI.out.mono ?_; rintro e V2 ⟨rfl, hb2⟩
    have F2 := F1.below hb2
    have i0 := F2.wrap
    obtain ⟨htl, F3⟩ := F2.next hk
    rw [← htl] at hT
    have B2 := F2.rd.box
    clear HI hb htl hk N1 F1 hb2
    have s_z : g < V2.heap.size := B2.lt
    have s_c0 : V2.cell? ⟨g, 0, none⟩ = some (.slice A L.length c) := (B2.cell 0).trans rfl
    have s_f0 := B2.frozen 0
    have s_c1 : V2.cell? ⟨g, 1, none⟩ = some (.int .i64 at_) := (B2.cell 1).trans rfl
    have s_f1 := B2.frozen 1
    go_wp2_with fail
    clear F2 B2 s_z s_c0 s_f0 s_c1 s_f1 i0
    generalize V2.setCell ⟨g, 1, none⟩ (.int .i64 ((at_ : Int) + 1)) = V3 at F3 ⊢
    refine (knap_any F3.rd).mono ?_; rintro e V4 ⟨hG, ⟨_, _, _, hp, rfl⟩ | ⟨I, n, hp, ⟨D1, d1, D2, d2, D3, d3, rfl, HO⟩, R⟩⟩
    · rw [hp, PR.bind_bad] at hT
      exact ⟨rfl, F3.gr.step hG, .inl ⟨_, _, _, hT.symm, rfl⟩⟩
    · rw [hp, PR.bind_ok] at hT
      have F2 := F3
      clear F3 hp
      have F3 := F2.meth hG R
      have hsz := F2.size
      have F4 := F3.put6 (a' := .int .i64 I.kind) (b' := .int .i64 I.cap) (c2 := .slice D1 I.items.length d1) (d' := .slice D2 I.cost.length d2) (e' := .int .i64 I.size) (f' := .slice D3 I.sets.length d3)
      have O4 := HO.res6 (r := w.heap.size + 1) (by omega) (.int .i64 I.kind) (.int .i64 I.cap) (.slice D1 I.items.length d1) (.slice D2 I.cost.length d2) (.int .i64 I.size) (.slice D3 I.sets.length d3)
      have BX := F3.box
      clear hG R HO F2
      have x_z : w.heap.size + 1 < V4.heap.size := BX.lt
      have x_c0 : V4.cell? ⟨w.heap.size + 1, 0, none⟩ = some (.int .i64 0) := (BX.cell 0).trans rfl
      have x_f0 := BX.frozen 0
      have x_c1 : V4.cell? ⟨w.heap.size + 1, 1, none⟩ = some (.int .i64 0) := (BX.cell 1).trans rfl
      have x_f1 := BX.frozen 1
      have x_c2 : V4.cell? ⟨w.heap.size + 1, 2, none⟩ = some (.slice none 0 0) := (BX.cell 2).trans rfl
      have x_f2 := BX.frozen 2
      have x_c3 : V4.cell? ⟨w.heap.size + 1, 3, none⟩ = some (.slice none 0 0) := (BX.cell 3).trans rfl
      have x_f3 := BX.frozen 3
      have x_c4 : V4.cell? ⟨w.heap.size + 1, 4, none⟩ = some (.int .i64 0) := (BX.cell 4).trans rfl
      have x_f4 := BX.frozen 4
      have x_c5 : V4.cell? ⟨w.heap.size + 1, 5, none⟩ = some (.slice none 0 0) := (BX.cell 5).trans rfl
      have x_f5 := BX.frozen 5
      go_wp2_with fail
      clear x_z x_c0 x_c1 x_c2 x_c3 x_c4 x_c5 x_f0 x_f1 x_f2 x_f3 x_f4 x_f5 BX F3
      generalize (((((V4.setCell ⟨w.heap.size + 1, 0, none⟩ (.int .i64 I.kind)).setCell ⟨w.heap.size + 1, 1, none⟩ (.int .i64 I.cap)).setCell ⟨w.heap.size + 1, 2, none⟩ (.slice D1 I.items.length d1)).setCell ⟨w.heap.size + 1, 3, none⟩ (.slice D2 I.cost.length d2)).setCell ⟨w.heap.size + 1, 4, none⟩ (.int .i64 I.size)).setCell ⟨w.heap.size + 1, 5, none⟩ (.slice D3 I.sets.length d3) = V5 at F4 O4 ⊢
      have HA := Lib.hid (ahead_any F4.rd)
      have HF := Lib.hid (fun (W : World) (hR : Rd W g A c L n) => fail_any hR 4)
      obtain ⟨t, ht⟩ : ∃ t, headT (L.drop n) = t := ⟨_, rfl⟩
      rw [ht] at HA HF hT
      have O5 := Lib.hid (O4.more (base' := w.heap.size + 1 + 1) (by omega))
      clear O4
      have hf0 : ∀ w, (Instr.field 116 (.agg #[.int .i64 (t).kind, .string ⟨(t).text.toArray⟩, .int .i64 (t).num, .int .i64 (t).line, .int .i64 (t).col]) 0).run Tryd.prog w = .ok (.int .i64 t.kind) w := fun _ => by kernel_rfl
      by_cases hk : t.kind = 3
      · rw [if_pos hk] at hT
        have hk' : (t.kind != 3) = false := by simpa using hk
        have hT2 := Lib.hid hT
        clear hT hk HF
        refine HA.out.mono ?_; rintro e V6 ⟨rfl, hb6⟩
        have F6 := F4.below hb6
        have O6 := Lib.hid (O5.out.below hb6)
        have e1 : ¬ w.heap.size + 1 = w.heap.size := by omega
        have e2 : ¬ w.heap.size = w.heap.size + 1 := by omega
        have FB := F6.box
        have ZB := F6.res
        clear F4 O5 hb6 HA
        have x_z : w.heap.size + 1 < V6.heap.size := FB.lt
        have x_c0 : V6.cell? ⟨w.heap.size + 1, 0, none⟩ = some (.int .i64 I.kind) := (FB.cell 0).trans rfl
        have x_f0 := FB.frozen 0
        have x_c1 : V6.cell? ⟨w.heap.size + 1, 1, none⟩ = some (.int .i64 I.cap) := (FB.cell 1).trans rfl
        have x_f1 := FB.frozen 1
        have x_c2 : V6.cell? ⟨w.heap.size + 1, 2, none⟩ = some (.slice D1 I.items.length d1) := (FB.cell 2).trans rfl
        have x_f2 := FB.frozen 2
        have x_c3 : V6.cell? ⟨w.heap.size + 1, 3, none⟩ = some (.slice D2 I.cost.length d2) := (FB.cell 3).trans rfl
        have x_f3 := FB.frozen 3
        have x_c4 : V6.cell? ⟨w.heap.size + 1, 4, none⟩ = some (.int .i64 I.size) := (FB.cell 4).trans rfl
        have x_f4 := FB.frozen 4
        have x_c5 : V6.cell? ⟨w.heap.size + 1, 5, none⟩ = some (.slice D3 I.sets.length d3) := (FB.cell 5).trans rfl
        have x_f5 := FB.frozen 5
        have z_z : w.heap.size < V6.heap.size := ZB.lt
        have z_c0 : V6.cell? ⟨w.heap.size, 0, none⟩ = some (.int .i64 0) := (ZB.cell 0).trans rfl
        have z_f0 := ZB.frozen 0
        have z_c1 : V6.cell? ⟨w.heap.size, 1, none⟩ = some (.int .i64 0) := (ZB.cell 1).trans rfl
        have z_f1 := ZB.frozen 1
        have z_c2 : V6.cell? ⟨w.heap.size, 2, none⟩ = some (.slice none 0 0) := (ZB.cell 2).trans rfl
        have z_f2 := ZB.frozen 2
        have z_c3 : V6.cell? ⟨w.heap.size, 3, none⟩ = some (.slice none 0 0) := (ZB.cell 3).trans rfl
        have z_f3 := ZB.frozen 3
        have z_c4 : V6.cell? ⟨w.heap.size, 4, none⟩ = some (.int .i64 0) := (ZB.cell 4).trans rfl
        have z_f4 := ZB.frozen 4
        have z_c5 : V6.cell? ⟨w.heap.size, 5, none⟩ = some (.slice none 0 0) := (ZB.cell 5).trans rfl
        have z_f5 := ZB.frozen 5
        go_wp2_with fail
        refine bodyPost_ret (v := .agg #[.int .i64 I.kind, .int .i64 I.cap, .slice D1 I.items.length d1, .slice D2 I.cost.length d2, .int .i64 I.size, .slice D3 I.sets.length d3]) (by simp [results, Tryd.results53, go_sem, e1, e2, z_z, z_c0, z_c1, z_c2, z_c3, z_c4, z_c5, z_f0, z_f1, z_f2, z_f3, z_f4, z_f5]) rfl ?_
        exact F6.fin (I := I) rfl O6.out hT2.out.symm
      · rw [if_neg hk] at hT
        have hk' : (t.kind != 3) = true := by simpa using hk
        refine HA.out.mono ?_; rintro e V6 ⟨rfl, hb6⟩
        have F6 := F4.below hb6
        clear F4 O5 hb6 HA
        go_wp2_with fail
        refine (HF.out _ F6.rd).mono ?_; rintro e V7 ⟨rfl, hb7⟩
        exact ⟨rfl, F6.gr.below hb7, .inl ⟨_, _, _, by rw [← hT, failP, ht], rfl⟩⟩
  | false =>
    simp only [Bool.false_eq_true, if_false] at hT
    go_wp2_with fail
    refine HI.out.mono ?_; rintro e V2 ⟨rfl, hb2⟩
    have FR := F1.below hb2
    have N0 := N1.below hb2
    clear HI hb N1 F1 hb2
    go_wp2_with fail
    refine (name_w 1 wAss (by rfl) _ N0).mono ?_; rintro e V1 ⟨rfl, hb1⟩
    have F1 := FR.below hb1
    have N1 := N0.below hb1
    have HI := Lib.hid (ris_any F1.rd wAss)
    clear FR N0 hb1
    obtain ⟨b, hb⟩ : ∃ b, isP wAss (L.drop at_) = b := ⟨_, rfl⟩
    rw [hb] at HI hT
    cases b with
    | true =>
      simp only [if_true] at hT
      have hk : ¬ (headT (L.drop at_)).kind = 3 := by unfold isP at hb; simp only [Bool.and_eq_true, decide_eq_true_eq] at hb; omega
      go_wp2_with fail
      refine HI.out.mono ?_; rintro e V2 ⟨rfl, hb2⟩
      have F2 := F1.below hb2
      have i0 := F2.wrap
      obtain ⟨htl, F3⟩ := F2.next hk
      rw [← htl] at hT
      have B2 := F2.rd.box
      clear HI hb htl hk N1 F1 hb2
      have s_z : g < V2.heap.size := B2.lt
      have s_c0 : V2.cell? ⟨g, 0, none⟩ = some (.slice A L.length c) := (B2.cell 0).trans rfl
      have s_f0 := B2.frozen 0
      have s_c1 : V2.cell? ⟨g, 1, none⟩ = some (.int .i64 at_) := (B2.cell 1).trans rfl
      have s_f1 := B2.frozen 1
      go_wp2_with fail
      clear F2 B2 s_z s_c0 s_f0 s_c1 s_f1 i0
      generalize V2.setCell ⟨g, 1, none⟩ (.int .i64 ((at_ : Int) + 1)) = V3 at F3 ⊢
      refine (rsq_any F3.rd 1).mono ?_; rintro e V4 ⟨hG, ⟨_, _, _, hp, rfl⟩ | ⟨I, n, hp, ⟨D1, d1, D2, d2, D3, d3, rfl, HO⟩, R⟩⟩
      · rw [hp, PR.bind_bad] at hT
        exact ⟨rfl, F3.gr.step hG, .inl ⟨_, _, _, hT.symm, rfl⟩⟩
      · rw [hp, PR.bind_ok] at hT
        have F2 := F3
        clear F3 hp
        have F3 := F2.meth hG R
        have hsz := F2.size
        have F4 := F3.put6 (a' := .int .i64 I.kind) (b' := .int .i64 I.cap) (c2 := .slice D1 I.items.length d1) (d' := .slice D2 I.cost.length d2) (e' := .int .i64 I.size) (f' := .slice D3 I.sets.length d3)
        have O4 := HO.res6 (r := w.heap.size + 1) (by omega) (.int .i64 I.kind) (.int .i64 I.cap) (.slice D1 I.items.length d1) (.slice D2 I.cost.length d2) (.int .i64 I.size) (.slice D3 I.sets.length d3)
        have BX := F3.box
        clear hG R HO F2
        have x_z : w.heap.size + 1 < V4.heap.size := BX.lt
        have x_c0 : V4.cell? ⟨w.heap.size + 1, 0, none⟩ = some (.int .i64 0) := (BX.cell 0).trans rfl
        have x_f0 := BX.frozen 0
        have x_c1 : V4.cell? ⟨w.heap.size + 1, 1, none⟩ = some (.int .i64 0) := (BX.cell 1).trans rfl
        have x_f1 := BX.frozen 1
        have x_c2 : V4.cell? ⟨w.heap.size + 1, 2, none⟩ = some (.slice none 0 0) := (BX.cell 2).trans rfl
        have x_f2 := BX.frozen 2
        have x_c3 : V4.cell? ⟨w.heap.size + 1, 3, none⟩ = some (.slice none 0 0) := (BX.cell 3).trans rfl
        have x_f3 := BX.frozen 3
        have x_c4 : V4.cell? ⟨w.heap.size + 1, 4, none⟩ = some (.int .i64 0) := (BX.cell 4).trans rfl
        have x_f4 := BX.frozen 4
        have x_c5 : V4.cell? ⟨w.heap.size + 1, 5, none⟩ = some (.slice none 0 0) := (BX.cell 5).trans rfl
        have x_f5 := BX.frozen 5
        go_wp2_with fail
        clear x_z x_c0 x_c1 x_c2 x_c3 x_c4 x_c5 x_f0 x_f1 x_f2 x_f3 x_f4 x_f5 BX F3
        generalize (((((V4.setCell ⟨w.heap.size + 1, 0, none⟩ (.int .i64 I.kind)).setCell ⟨w.heap.size + 1, 1, none⟩ (.int .i64 I.cap)).setCell ⟨w.heap.size + 1, 2, none⟩ (.slice D1 I.items.length d1)).setCell ⟨w.heap.size + 1, 3, none⟩ (.slice D2 I.cost.length d2)).setCell ⟨w.heap.size + 1, 4, none⟩ (.int .i64 I.size)).setCell ⟨w.heap.size + 1, 5, none⟩ (.slice D3 I.sets.length d3) = V5 at F4 O4 ⊢
        have HA := Lib.hid (ahead_any F4.rd)
        have HF := Lib.hid (fun (W : World) (hR : Rd W g A c L n) => fail_any hR 4)
        obtain ⟨t, ht⟩ : ∃ t, headT (L.drop n) = t := ⟨_, rfl⟩
        rw [ht] at HA HF hT
        have O5 := Lib.hid (O4.more (base' := w.heap.size + 1 + 1) (by omega))
        clear O4
        have hf0 : ∀ w, (Instr.field 116 (.agg #[.int .i64 (t).kind, .string ⟨(t).text.toArray⟩, .int .i64 (t).num, .int .i64 (t).line, .int .i64 (t).col]) 0).run Tryd.prog w = .ok (.int .i64 t.kind) w := fun _ => by kernel_rfl
        by_cases hk : t.kind = 3
        · rw [if_pos hk] at hT
          have hk' : (t.kind != 3) = false := by simpa using hk
          have hT2 := Lib.hid hT
          clear hT hk HF
          refine HA.out.mono ?_; rintro e V6 ⟨rfl, hb6⟩
          have F6 := F4.below hb6
          have O6 := Lib.hid (O5.out.below hb6)
          have e1 : ¬ w.heap.size + 1 = w.heap.size := by omega
          have e2 : ¬ w.heap.size = w.heap.size + 1 := by omega
          have FB := F6.box
          have ZB := F6.res
          clear F4 O5 hb6 HA
          have x_z : w.heap.size + 1 < V6.heap.size := FB.lt
          have x_c0 : V6.cell? ⟨w.heap.size + 1, 0, none⟩ = some (.int .i64 I.kind) := (FB.cell 0).trans rfl
          have x_f0 := FB.frozen 0
          have x_c1 : V6.cell? ⟨w.heap.size + 1, 1, none⟩ = some (.int .i64 I.cap) := (FB.cell 1).trans rfl
          have x_f1 := FB.frozen 1
          have x_c2 : V6.cell? ⟨w.heap.size + 1, 2, none⟩ = some (.slice D1 I.items.length d1) := (FB.cell 2).trans rfl
          have x_f2 := FB.frozen 2
          have x_c3 : V6.cell? ⟨w.heap.size + 1, 3, none⟩ = some (.slice D2 I.cost.length d2) := (FB.cell 3).trans rfl
          have x_f3 := FB.frozen 3
          have x_c4 : V6.cell? ⟨w.heap.size + 1, 4, none⟩ = some (.int .i64 I.size) := (FB.cell 4).trans rfl
          have x_f4 := FB.frozen 4
          have x_c5 : V6.cell? ⟨w.heap.size + 1, 5, none⟩ = some (.slice D3 I.sets.length d3) := (FB.cell 5).trans rfl
          have x_f5 := FB.frozen 5
          have z_z : w.heap.size < V6.heap.size := ZB.lt
          have z_c0 : V6.cell? ⟨w.heap.size, 0, none⟩ = some (.int .i64 0) := (ZB.cell 0).trans rfl
          have z_f0 := ZB.frozen 0
          have z_c1 : V6.cell? ⟨w.heap.size, 1, none⟩ = some (.int .i64 0) := (ZB.cell 1).trans rfl
          have z_f1 := ZB.frozen 1
          have z_c2 : V6.cell? ⟨w.heap.size, 2, none⟩ = some (.slice none 0 0) := (ZB.cell 2).trans rfl
          have z_f2 := ZB.frozen 2
          have z_c3 : V6.cell? ⟨w.heap.size, 3, none⟩ = some (.slice none 0 0) := (ZB.cell 3).trans rfl
          have z_f3 := ZB.frozen 3
          have z_c4 : V6.cell? ⟨w.heap.size, 4, none⟩ = some (.int .i64 0) := (ZB.cell 4).trans rfl
          have z_f4 := ZB.frozen 4
          have z_c5 : V6.cell? ⟨w.heap.size, 5, none⟩ = some (.slice none 0 0) := (ZB.cell 5).trans rfl
          have z_f5 := ZB.frozen 5
          go_wp2_with fail
          refine bodyPost_ret (v := .agg #[.int .i64 I.kind, .int .i64 I.cap, .slice D1 I.items.length d1, .slice D2 I.cost.length d2, .int .i64 I.size, .slice D3 I.sets.length d3]) (by simp [results, Tryd.results53, go_sem, e1, e2, z_z, z_c0, z_c1, z_c2, z_c3, z_c4, z_c5, z_f0, z_f1, z_f2, z_f3, z_f4, z_f5]) rfl ?_
          exact F6.fin (I := I) rfl O6.out hT2.out.symm
        · rw [if_neg hk] at hT
          have hk' : (t.kind != 3) = true := by simpa using hk
          refine HA.out.mono ?_; rintro e V6 ⟨rfl, hb6⟩
          have F6 := F4.below hb6
          clear F4 O5 hb6 HA
          go_wp2_with fail
          refine (HF.out _ F6.rd).mono ?_; rintro e V7 ⟨rfl, hb7⟩
          exact ⟨rfl, F6.gr.below hb7, .inl ⟨_, _, _, by rw [← hT, failP, ht], rfl⟩⟩
    | false =>
      simp only [Bool.false_eq_true, if_false] at hT
      go_wp2_with fail
      refine HI.out.mono ?_; rintro e V2 ⟨rfl, hb2⟩
      have FR := F1.below hb2
      have N0 := N1.below hb2
      clear HI hb N1 F1 hb2
      go_wp2_with fail
      refine (name_w 2 wTsp (by rfl) _ N0).mono ?_; rintro e V1 ⟨rfl, hb1⟩
      have F1 := FR.below hb1
      have N1 := N0.below hb1
      have HI := Lib.hid (ris_any F1.rd wTsp)
      clear FR N0 hb1
      obtain ⟨b, hb⟩ : ∃ b, isP wTsp (L.drop at_) = b := ⟨_, rfl⟩
      rw [hb] at HI hT
      cases b with
      | true =>
        simp only [if_true] at hT
        have hk : ¬ (headT (L.drop at_)).kind = 3 := by unfold isP at hb; simp only [Bool.and_eq_true, decide_eq_true_eq] at hb; omega
        go_wp2_with fail
        refine HI.out.mono ?_; rintro e V2 ⟨rfl, hb2⟩
        have F2 := F1.below hb2
        have i0 := F2.wrap
        obtain ⟨htl, F3⟩ := F2.next hk
        rw [← htl] at hT
        have B2 := F2.rd.box
        clear HI hb htl hk N1 F1 hb2
        have s_z : g < V2.heap.size := B2.lt
        have s_c0 : V2.cell? ⟨g, 0, none⟩ = some (.slice A L.length c) := (B2.cell 0).trans rfl
        have s_f0 := B2.frozen 0
        have s_c1 : V2.cell? ⟨g, 1, none⟩ = some (.int .i64 at_) := (B2.cell 1).trans rfl
        have s_f1 := B2.frozen 1
        go_wp2_with fail
        clear F2 B2 s_z s_c0 s_f0 s_c1 s_f1 i0
        generalize V2.setCell ⟨g, 1, none⟩ (.int .i64 ((at_ : Int) + 1)) = V3 at F3 ⊢
        refine (rsq_any F3.rd 2).mono ?_; rintro e V4 ⟨hG, ⟨_, _, _, hp, rfl⟩ | ⟨I, n, hp, ⟨D1, d1, D2, d2, D3, d3, rfl, HO⟩, R⟩⟩
        · rw [hp, PR.bind_bad] at hT
          exact ⟨rfl, F3.gr.step hG, .inl ⟨_, _, _, hT.symm, rfl⟩⟩
        · rw [hp, PR.bind_ok] at hT
          have F2 := F3
          clear F3 hp
          have F3 := F2.meth hG R
          have hsz := F2.size
          have F4 := F3.put6 (a' := .int .i64 I.kind) (b' := .int .i64 I.cap) (c2 := .slice D1 I.items.length d1) (d' := .slice D2 I.cost.length d2) (e' := .int .i64 I.size) (f' := .slice D3 I.sets.length d3)
          have O4 := HO.res6 (r := w.heap.size + 1) (by omega) (.int .i64 I.kind) (.int .i64 I.cap) (.slice D1 I.items.length d1) (.slice D2 I.cost.length d2) (.int .i64 I.size) (.slice D3 I.sets.length d3)
          have BX := F3.box
          clear hG R HO F2
          have x_z : w.heap.size + 1 < V4.heap.size := BX.lt
          have x_c0 : V4.cell? ⟨w.heap.size + 1, 0, none⟩ = some (.int .i64 0) := (BX.cell 0).trans rfl
          have x_f0 := BX.frozen 0
          have x_c1 : V4.cell? ⟨w.heap.size + 1, 1, none⟩ = some (.int .i64 0) := (BX.cell 1).trans rfl
          have x_f1 := BX.frozen 1
          have x_c2 : V4.cell? ⟨w.heap.size + 1, 2, none⟩ = some (.slice none 0 0) := (BX.cell 2).trans rfl
          have x_f2 := BX.frozen 2
          have x_c3 : V4.cell? ⟨w.heap.size + 1, 3, none⟩ = some (.slice none 0 0) := (BX.cell 3).trans rfl
          have x_f3 := BX.frozen 3
          have x_c4 : V4.cell? ⟨w.heap.size + 1, 4, none⟩ = some (.int .i64 0) := (BX.cell 4).trans rfl
          have x_f4 := BX.frozen 4
          have x_c5 : V4.cell? ⟨w.heap.size + 1, 5, none⟩ = some (.slice none 0 0) := (BX.cell 5).trans rfl
          have x_f5 := BX.frozen 5
          go_wp2_with fail
          clear x_z x_c0 x_c1 x_c2 x_c3 x_c4 x_c5 x_f0 x_f1 x_f2 x_f3 x_f4 x_f5 BX F3
          generalize (((((V4.setCell ⟨w.heap.size + 1, 0, none⟩ (.int .i64 I.kind)).setCell ⟨w.heap.size + 1, 1, none⟩ (.int .i64 I.cap)).setCell ⟨w.heap.size + 1, 2, none⟩ (.slice D1 I.items.length d1)).setCell ⟨w.heap.size + 1, 3, none⟩ (.slice D2 I.cost.length d2)).setCell ⟨w.heap.size + 1, 4, none⟩ (.int .i64 I.size)).setCell ⟨w.heap.size + 1, 5, none⟩ (.slice D3 I.sets.length d3) = V5 at F4 O4 ⊢
          have HA := Lib.hid (ahead_any F4.rd)
          have HF := Lib.hid (fun (W : World) (hR : Rd W g A c L n) => fail_any hR 4)
          obtain ⟨t, ht⟩ : ∃ t, headT (L.drop n) = t := ⟨_, rfl⟩
          rw [ht] at HA HF hT
          have O5 := Lib.hid (O4.more (base' := w.heap.size + 1 + 1) (by omega))
          clear O4
          have hf0 : ∀ w, (Instr.field 116 (.agg #[.int .i64 (t).kind, .string ⟨(t).text.toArray⟩, .int .i64 (t).num, .int .i64 (t).line, .int .i64 (t).col]) 0).run Tryd.prog w = .ok (.int .i64 t.kind) w := fun _ => by kernel_rfl
          by_cases hk : t.kind = 3
          · rw [if_pos hk] at hT
            have hk' : (t.kind != 3) = false := by simpa using hk
            have hT2 := Lib.hid hT
            clear hT hk HF
            refine HA.out.mono ?_; rintro e V6 ⟨rfl, hb6⟩
            have F6 := F4.below hb6
            have O6 := Lib.hid (O5.out.below hb6)
            have e1 : ¬ w.heap.size + 1 = w.heap.size := by omega
            have e2 : ¬ w.heap.size = w.heap.size + 1 := by omega
            have FB := F6.box
            have ZB := F6.res
            clear F4 O5 hb6 HA
            have x_z : w.heap.size + 1 < V6.heap.size := FB.lt
            have x_c0 : V6.cell? ⟨w.heap.size + 1, 0, none⟩ = some (.int .i64 I.kind) := (FB.cell 0).trans rfl
            have x_f0 := FB.frozen 0
            have x_c1 : V6.cell? ⟨w.heap.size + 1, 1, none⟩ = some (.int .i64 I.cap) := (FB.cell 1).trans rfl
            have x_f1 := FB.frozen 1
            have x_c2 : V6.cell? ⟨w.heap.size + 1, 2, none⟩ = some (.slice D1 I.items.length d1) := (FB.cell 2).trans rfl
            have x_f2 := FB.frozen 2
            have x_c3 : V6.cell? ⟨w.heap.size + 1, 3, none⟩ = some (.slice D2 I.cost.length d2) := (FB.cell 3).trans rfl
            have x_f3 := FB.frozen 3
            have x_c4 : V6.cell? ⟨w.heap.size + 1, 4, none⟩ = some (.int .i64 I.size) := (FB.cell 4).trans rfl
            have x_f4 := FB.frozen 4
            have x_c5 : V6.cell? ⟨w.heap.size + 1, 5, none⟩ = some (.slice D3 I.sets.length d3) := (FB.cell 5).trans rfl
            have x_f5 := FB.frozen 5
            have z_z : w.heap.size < V6.heap.size := ZB.lt
            have z_c0 : V6.cell? ⟨w.heap.size, 0, none⟩ = some (.int .i64 0) := (ZB.cell 0).trans rfl
            have z_f0 := ZB.frozen 0
            have z_c1 : V6.cell? ⟨w.heap.size, 1, none⟩ = some (.int .i64 0) := (ZB.cell 1).trans rfl
            have z_f1 := ZB.frozen 1
            have z_c2 : V6.cell? ⟨w.heap.size, 2, none⟩ = some (.slice none 0 0) := (ZB.cell 2).trans rfl
            have z_f2 := ZB.frozen 2
            have z_c3 : V6.cell? ⟨w.heap.size, 3, none⟩ = some (.slice none 0 0) := (ZB.cell 3).trans rfl
            have z_f3 := ZB.frozen 3
            have z_c4 : V6.cell? ⟨w.heap.size, 4, none⟩ = some (.int .i64 0) := (ZB.cell 4).trans rfl
            have z_f4 := ZB.frozen 4
            have z_c5 : V6.cell? ⟨w.heap.size, 5, none⟩ = some (.slice none 0 0) := (ZB.cell 5).trans rfl
            have z_f5 := ZB.frozen 5
            go_wp2_with fail
            refine bodyPost_ret (v := .agg #[.int .i64 I.kind, .int .i64 I.cap, .slice D1 I.items.length d1, .slice D2 I.cost.length d2, .int .i64 I.size, .slice D3 I.sets.length d3]) (by simp [results, Tryd.results53, go_sem, e1, e2, z_z, z_c0, z_c1, z_c2, z_c3, z_c4, z_c5, z_f0, z_f1, z_f2, z_f3, z_f4, z_f5]) rfl ?_
            exact F6.fin (I := I) rfl O6.out hT2.out.symm
          · rw [if_neg hk] at hT
            have hk' : (t.kind != 3) = true := by simpa using hk
            refine HA.out.mono ?_; rintro e V6 ⟨rfl, hb6⟩
            have F6 := F4.below hb6
            clear F4 O5 hb6 HA
            go_wp2_with fail
            refine (HF.out _ F6.rd).mono ?_; rintro e V7 ⟨rfl, hb7⟩
            exact ⟨rfl, F6.gr.below hb7, .inl ⟨_, _, _, by rw [← hT, failP, ht], rfl⟩⟩
      | false =>
        simp only [Bool.false_eq_true, if_false] at hT
        go_wp2_with fail
        refine HI.out.mono ?_; rintro e V2 ⟨rfl, hb2⟩
        have FR := F1.below hb2
        have N0 := N1.below hb2
        clear HI hb N1 F1 hb2
        go_wp2_with fail
        refine (name_w 3 wCov (by rfl) _ N0).mono ?_; rintro e V1 ⟨rfl, hb1⟩
        have F1 := FR.below hb1
        have N1 := N0.below hb1
        have HI := Lib.hid (ris_any F1.rd wCov)
        clear FR N0 hb1
        obtain ⟨b, hb⟩ : ∃ b, isP wCov (L.drop at_) = b := ⟨_, rfl⟩
        rw [hb] at HI hT
        cases b with
        | true =>
          simp only [if_true] at hT
          have hk : ¬ (headT (L.drop at_)).kind = 3 := by unfold isP at hb; simp only [Bool.and_eq_true, decide_eq_true_eq] at hb; omega
          go_wp2_with fail
          refine HI.out.mono ?_; rintro e V2 ⟨rfl, hb2⟩
          have F2 := F1.below hb2
          have i0 := F2.wrap
          obtain ⟨htl, F3⟩ := F2.next hk
          rw [← htl] at hT
          have B2 := F2.rd.box
          clear HI hb htl hk N1 F1 hb2
          have s_z : g < V2.heap.size := B2.lt
          have s_c0 : V2.cell? ⟨g, 0, none⟩ = some (.slice A L.length c) := (B2.cell 0).trans rfl
          have s_f0 := B2.frozen 0
          have s_c1 : V2.cell? ⟨g, 1, none⟩ = some (.int .i64 at_) := (B2.cell 1).trans rfl
          have s_f1 := B2.frozen 1
          go_wp2_with fail
          clear F2 B2 s_z s_c0 s_f0 s_c1 s_f1 i0
          generalize V2.setCell ⟨g, 1, none⟩ (.int .i64 ((at_ : Int) + 1)) = V3 at F3 ⊢
          refine (cover_any F3.rd).mono ?_; rintro e V4 ⟨hG, ⟨_, _, _, hp, rfl⟩ | ⟨I, n, hp, ⟨D1, d1, D2, d2, D3, d3, rfl, HO⟩, R⟩⟩
          · rw [hp, PR.bind_bad] at hT
            exact ⟨rfl, F3.gr.step hG, .inl ⟨_, _, _, hT.symm, rfl⟩⟩
          · rw [hp, PR.bind_ok] at hT
            have F2 := F3
            clear F3 hp
            have F3 := F2.meth hG R
            have hsz := F2.size
            have F4 := F3.put6 (a' := .int .i64 I.kind) (b' := .int .i64 I.cap) (c2 := .slice D1 I.items.length d1) (d' := .slice D2 I.cost.length d2) (e' := .int .i64 I.size) (f' := .slice D3 I.sets.length d3)
            have O4 := HO.res6 (r := w.heap.size + 1) (by omega) (.int .i64 I.kind) (.int .i64 I.cap) (.slice D1 I.items.length d1) (.slice D2 I.cost.length d2) (.int .i64 I.size) (.slice D3 I.sets.length d3)
            have BX := F3.box
            clear hG R HO F2
            have x_z : w.heap.size + 1 < V4.heap.size := BX.lt
            have x_c0 : V4.cell? ⟨w.heap.size + 1, 0, none⟩ = some (.int .i64 0) := (BX.cell 0).trans rfl
            have x_f0 := BX.frozen 0
            have x_c1 : V4.cell? ⟨w.heap.size + 1, 1, none⟩ = some (.int .i64 0) := (BX.cell 1).trans rfl
            have x_f1 := BX.frozen 1
            have x_c2 : V4.cell? ⟨w.heap.size + 1, 2, none⟩ = some (.slice none 0 0) := (BX.cell 2).trans rfl
            have x_f2 := BX.frozen 2
            have x_c3 : V4.cell? ⟨w.heap.size + 1, 3, none⟩ = some (.slice none 0 0) := (BX.cell 3).trans rfl
            have x_f3 := BX.frozen 3
            have x_c4 : V4.cell? ⟨w.heap.size + 1, 4, none⟩ = some (.int .i64 0) := (BX.cell 4).trans rfl
            have x_f4 := BX.frozen 4
            have x_c5 : V4.cell? ⟨w.heap.size + 1, 5, none⟩ = some (.slice none 0 0) := (BX.cell 5).trans rfl
            have x_f5 := BX.frozen 5
            go_wp2_with fail
            clear x_z x_c0 x_c1 x_c2 x_c3 x_c4 x_c5 x_f0 x_f1 x_f2 x_f3 x_f4 x_f5 BX F3
            generalize (((((V4.setCell ⟨w.heap.size + 1, 0, none⟩ (.int .i64 I.kind)).setCell ⟨w.heap.size + 1, 1, none⟩ (.int .i64 I.cap)).setCell ⟨w.heap.size + 1, 2, none⟩ (.slice D1 I.items.length d1)).setCell ⟨w.heap.size + 1, 3, none⟩ (.slice D2 I.cost.length d2)).setCell ⟨w.heap.size + 1, 4, none⟩ (.int .i64 I.size)).setCell ⟨w.heap.size + 1, 5, none⟩ (.slice D3 I.sets.length d3) = V5 at F4 O4 ⊢
            have HA := Lib.hid (ahead_any F4.rd)
            have HF := Lib.hid (fun (W : World) (hR : Rd W g A c L n) => fail_any hR 4)
            obtain ⟨t, ht⟩ : ∃ t, headT (L.drop n) = t := ⟨_, rfl⟩
            rw [ht] at HA HF hT
            have O5 := Lib.hid (O4.more (base' := w.heap.size + 1 + 1) (by omega))
            clear O4
            have hf0 : ∀ w, (Instr.field 116 (.agg #[.int .i64 (t).kind, .string ⟨(t).text.toArray⟩, .int .i64 (t).num, .int .i64 (t).line, .int .i64 (t).col]) 0).run Tryd.prog w = .ok (.int .i64 t.kind) w := fun _ => by kernel_rfl
            by_cases hk : t.kind = 3
            · rw [if_pos hk] at hT
              have hk' : (t.kind != 3) = false := by simpa using hk
              have hT2 := Lib.hid hT
              clear hT hk HF
              refine HA.out.mono ?_; rintro e V6 ⟨rfl, hb6⟩
              have F6 := F4.below hb6
              have O6 := Lib.hid (O5.out.below hb6)
              have e1 : ¬ w.heap.size + 1 = w.heap.size := by omega
              have e2 : ¬ w.heap.size = w.heap.size + 1 := by omega
              have FB := F6.box
              have ZB := F6.res
              clear F4 O5 hb6 HA
              have x_z : w.heap.size + 1 < V6.heap.size := FB.lt
              have x_c0 : V6.cell? ⟨w.heap.size + 1, 0, none⟩ = some (.int .i64 I.kind) := (FB.cell 0).trans rfl
              have x_f0 := FB.frozen 0
              have x_c1 : V6.cell? ⟨w.heap.size + 1, 1, none⟩ = some (.int .i64 I.cap) := (FB.cell 1).trans rfl
              have x_f1 := FB.frozen 1
              have x_c2 : V6.cell? ⟨w.heap.size + 1, 2, none⟩ = some (.slice D1 I.items.length d1) := (FB.cell 2).trans rfl
              have x_f2 := FB.frozen 2
              have x_c3 : V6.cell? ⟨w.heap.size + 1, 3, none⟩ = some (.slice D2 I.cost.length d2) := (FB.cell 3).trans rfl
              have x_f3 := FB.frozen 3
              have x_c4 : V6.cell? ⟨w.heap.size + 1, 4, none⟩ = some (.int .i64 I.size) := (FB.cell 4).trans rfl
              have x_f4 := FB.frozen 4
              have x_c5 : V6.cell? ⟨w.heap.size + 1, 5, none⟩ = some (.slice D3 I.sets.length d3) := (FB.cell 5).trans rfl
              have x_f5 := FB.frozen 5
              have z_z : w.heap.size < V6.heap.size := ZB.lt
              have z_c0 : V6.cell? ⟨w.heap.size, 0, none⟩ = some (.int .i64 0) := (ZB.cell 0).trans rfl
              have z_f0 := ZB.frozen 0
              have z_c1 : V6.cell? ⟨w.heap.size, 1, none⟩ = some (.int .i64 0) := (ZB.cell 1).trans rfl
              have z_f1 := ZB.frozen 1
              have z_c2 : V6.cell? ⟨w.heap.size, 2, none⟩ = some (.slice none 0 0) := (ZB.cell 2).trans rfl
              have z_f2 := ZB.frozen 2
              have z_c3 : V6.cell? ⟨w.heap.size, 3, none⟩ = some (.slice none 0 0) := (ZB.cell 3).trans rfl
              have z_f3 := ZB.frozen 3
              have z_c4 : V6.cell? ⟨w.heap.size, 4, none⟩ = some (.int .i64 0) := (ZB.cell 4).trans rfl
              have z_f4 := ZB.frozen 4
              have z_c5 : V6.cell? ⟨w.heap.size, 5, none⟩ = some (.slice none 0 0) := (ZB.cell 5).trans rfl
              have z_f5 := ZB.frozen 5
              go_wp2_with fail
              refine bodyPost_ret (v := .agg #[.int .i64 I.kind, .int .i64 I.cap, .slice D1 I.items.length d1, .slice D2 I.cost.length d2, .int .i64 I.size, .slice D3 I.sets.length d3]) (by simp [results, Tryd.results53, go_sem, e1, e2, z_z, z_c0, z_c1, z_c2, z_c3, z_c4, z_c5, z_f0, z_f1, z_f2, z_f3, z_f4, z_f5]) rfl ?_
              exact F6.fin (I := I) rfl O6.out hT2.out.symm
            · rw [if_neg hk] at hT
              have hk' : (t.kind != 3) = true := by simpa using hk
              refine HA.out.mono ?_; rintro e V6 ⟨rfl, hb6⟩
              have F6 := F4.below hb6
              clear F4 O5 hb6 HA
              go_wp2_with fail
              refine (HF.out _ F6.rd).mono ?_; rintro e V7 ⟨rfl, hb7⟩
              exact ⟨rfl, F6.gr.below hb7, .inl ⟨_, _, _, by rw [← hT, failP, ht], rfl⟩⟩
        | false =>
          simp only [Bool.false_eq_true, if_false] at hT
          go_wp2_with fail
          refine HI.out.mono ?_; rintro e V2 ⟨rfl, hb2⟩
          have FR := F1.below hb2
          have N0 := N1.below hb2
          clear HI hb N1 F1 hb2
          have HF := Lib.hid (fail_any FR.rd 4)
          go_wp2_with fail
          refine HF.out.mono ?_; rintro e V3 ⟨rfl, hb3⟩
          exact ⟨rfl, FR.gr.below hb3, .inl ⟨_, _, _, hT.symm, rfl⟩⟩
end
end Go.Proofs.YtklomjpnmmaogaaDoor
