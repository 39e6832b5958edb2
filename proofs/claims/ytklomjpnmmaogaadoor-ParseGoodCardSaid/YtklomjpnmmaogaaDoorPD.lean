/- The reader's small methods. -/
import Derived.Test.YtklomjpnmmaogaaDoorPC
namespace Go.Proofs.YtklomjpnmmaogaaDoor
open Go Go.RowKit
set_option linter.unusedVariables false
set_option linter.unusedSimpArgs false
set_option maxRecDepth 100000

/-- What a method of a reader comes to: nothing but the reader changes; the text fails, or v is read and the reader stands behind it. -/
def Rp {α : Type} (w : World) (g : Nat) (A : Option Addr) (c : Nat) (L : List Tok) (p : PR α) (V : α → Ending → World → Prop) (e : Ending) (w' : World) : Prop :=
  Gr w g w' ∧ ((∃ a b er, p = .bad a b er ∧ e = pan a b er) ∨ (∃ v n, p = .ok v (L.drop n) ∧ V v e w' ∧ Rd w' g A c L n))
section
variable {w : World} {g c at_ : Nat} {A : Option Addr} {L : List Tok}
theorem Rd.step (h : Rd w g A c L at_) (hk : ¬ (headT (L.drop at_)).kind = 3) : L.drop (at_ + 1) = (L.drop at_).tail ∧ Rd (w.setCell ⟨g, 1, none⟩ (.int .i64 ((at_ : Int) + 1))) g A c L (at_ + 1) := by
  obtain ⟨hlt, t, ht, hh, htl⟩ := h.ends.drop_head
  refine ⟨htl.symm, h.box.put 1 _ (by simp), h.toks.keep (fun q hq => World.cell?_setCell_other w _ q _ (fun e => by subst e; simp at hq)), h.cap, ?_⟩
  rw [← htl]
  exact h.ends.tail hk
theorem failP_to {α β : Type} {l : List Tok} {e : Int} {a b : Nat} {er : Int} (h : (failP l e : PR α) = .bad a b er) : (failP l e : PR β) = .bad a b er := by
  unfold failP at h ⊢
  injection h with a1 a2 a3
  rw [a1, a2, a3]
theorem Rd.gl (h : Rd w g A c L at_) : g < w.heap.size := h.box.lt
theorem fail_any (h : Rd w g A c L at_) (er : Int) : Calls Tryd.prog 80 #[.pointer (some ⟨g, 0, none⟩), .int .i64 er] w fun e w' => e = pan (headT (L.drop at_)).line (headT (L.drop at_)).col er ∧ Below w.heap.size w w' := by
  have HA := Lib.hid (ahead_any h)
  generalize headT (L.drop at_) = t at HA ⊢
  clear h
  have hf : ∀ w, (Instr.field 116 (.agg #[.int .i64 (t).kind, .string ⟨(t).text.toArray⟩, .int .i64 (t).num, .int .i64 (t).line, .int .i64 (t).col]) 3).run Tryd.prog w = .ok (.agg #[.int .i64 t.line, .int .i64 t.col]) w := fun _ => by kernel_rfl
  go_enter Tryd.func80, Tryd.ntmps80
  go_wp2_with fail
  refine HA.out.mono ?_; rintro e V ⟨rfl, hb⟩
  go_wp2_with fail
  exact ⟨rfl, rfl, hb⟩
theorem ris_any (h : Rd w g A c L at_) (s : List UInt8) : Calls Tryd.prog 76 #[.pointer (some ⟨g, 0, none⟩), .string ⟨s.toArray⟩] w fun e w' => e = .returned (.bool (isP s (L.drop at_))) ∧ Below w.heap.size w w' := by
  have HA := Lib.hid (ahead_any h)
  unfold isP
  generalize headT (L.drop at_) = t at HA ⊢
  clear h
  by_cases hk : t.kind = 0
  · have hk' : (t.kind == 0) = true := by simpa using hk
    have e : (decide (t.kind = 0) && decide (t.text = s)) = (t.text == s) := by rw [hk, Bool.eq_iff_iff]; simp
    rw [e]
    clear e
    go_enter Tryd.func76, Tryd.ntmps76
    go_wp2_with fail
    refine HA.out.mono ?_; rintro e V ⟨rfl, hb⟩
    go_wp2_with fail
    all_goals (refine bodyPost_ret (v := .bool (t.text == s)) (by simp [results, Tryd.results76, go_sem]) rfl ⟨rfl, ?_⟩; exact bl_alloc hb _)
  · have hk' : (t.kind == 0) = false := by simpa using hk
    have e : (decide (t.kind = 0) && decide (t.text = s)) = false := by simp [hk]
    rw [e]
    clear e
    go_enter Tryd.func76, Tryd.ntmps76
    go_wp2_with fail
    refine HA.out.mono ?_; rintro e V ⟨rfl, hb⟩
    go_wp2_with fail
    all_goals (refine bodyPost_ret (v := .bool false) (by simp [results, Tryd.results76, go_sem, hk']) rfl ⟨rfl, ?_⟩; exact bl_alloc hb _)
theorem room_any (h : Rd w g A c L at_) (n : Nat) : Calls Tryd.prog 98 #[.pointer (some ⟨g, 0, none⟩), .int .i64 n] w fun e w' => Below w.heap.size w w' ∧ ((4096 ≤ n ∧ e = pan (headT (L.drop at_)).line (headT (L.drop at_)).col 22) ∨ (n < 4096 ∧ e = .returned (.tuple #[]))) := by
  have HF := Lib.hid (fail_any h 22)
  generalize headT (L.drop at_) = t at HF ⊢
  clear h
  by_cases hn : 4096 ≤ n
  · have hn' : (n : Int) ≥ 4096 := by omega
    go_enter Tryd.func98, Tryd.ntmps98
    go_wp2_with fail
    refine HF.out.mono ?_; rintro e V ⟨rfl, hb⟩
    exact ⟨rfl, hb, .inl ⟨hn, rfl⟩⟩
  · have hn' : ¬ (n : Int) ≥ 4096 := by omega
    go_enter Tryd.func98, Tryd.ntmps98
    go_wp2_with fail
    refine bodyPost_end (results_none rfl _ _ _) rfl ?_
    exact ⟨Below.refl _ _, by omega, rfl⟩
theorem word_any (h : Rd w g A c L at_) (s : List UInt8) : Calls Tryd.prog 96 #[.pointer (some ⟨g, 0, none⟩), .string ⟨s.toArray⟩] w fun e w' => Rp w g A c L (wordP s (L.drop at_)) (fun _ e _ => e = .returned (.tuple #[])) e w' := by
  have HI := Lib.hid (ris_any h s)
  unfold wordP
  obtain ⟨b, hb⟩ : ∃ b, isP s (L.drop at_) = b := ⟨_, rfl⟩
  rw [hb] at HI ⊢
  cases b with
  | false =>
    simp only [Bool.false_eq_true, if_false]
    go_enter Tryd.func96, Tryd.ntmps96
    go_wp2_with fail
    refine HI.out.mono ?_; rintro e V ⟨rfl, hb⟩
    have h2 := h.below hb
    have HF := Lib.hid (fail_any h2 4)
    go_wp2_with fail
    refine HF.out.mono ?_; rintro e V2 ⟨rfl, hb2⟩
    exact ⟨rfl, (Gr.of_below hb).below hb2, .inl ⟨_, _, _, rfl, rfl⟩⟩
  | true =>
    simp only [if_true]
    have hk : ¬ (headT (L.drop at_)).kind = 3 := by unfold isP at hb; simp only [Bool.and_eq_true, decide_eq_true_eq] at hb; omega
    go_enter Tryd.func96, Tryd.ntmps96
    go_wp2_with fail
    refine HI.out.mono ?_; rintro e V ⟨rfl, hb⟩
    have h2 := h.below hb
    have i0 : IntKind.i64.wrap ((at_ : Int) + 1) = (at_ : Int) + 1 := by have := h2.lt; have := h2.cap; rw [IntKind.wrap_i64]; omega
    obtain ⟨s1, s2⟩ := h2.step hk
    have B := h2.box
    clear h HI
    have r_z : g < V.heap.size := B.lt
    have r_c0 : V.cell? ⟨g, 0, none⟩ = some (.slice A L.length c) := (B.cell 0).trans rfl
    have r_f0 := B.frozen 0
    have r_c1 : V.cell? ⟨g, 1, none⟩ = some (.int .i64 at_) := (B.cell 1).trans rfl
    have r_f1 := B.frozen 1
    go_wp2_with fail
    refine bodyPost_end (results_none rfl _ _ _) rfl ?_
    exact ⟨(Gr.of_below hb).set (p := ⟨g, 1, none⟩) (.inl rfl) _, .inr ⟨(), at_ + 1, by rw [s1], rfl, s2⟩⟩
theorem take_any (h : Rd w g A c L at_) (k : Int) (hk3 : ¬ k = 3) : Calls Tryd.prog 100 #[.pointer (some ⟨g, 0, none⟩), .int .i64 k] w fun e w' => Rp w g A c L (takeP k (L.drop at_)) (fun t e _ => e = .returned (.agg #[.int .i64 (t).kind, .string ⟨(t).text.toArray⟩, .int .i64 (t).num, .int .i64 (t).line, .int .i64 (t).col])) e w' := by
  have h0 := h.below (bl_alloc (Below.refl _ _) (.cells #[.int .i64 0, .string ⟨#[]⟩, .int .i64 0, .int .i64 0, .int .i64 0] 116))
  have R0 : Blk (w.alloc (.cells #[.int .i64 0, .string ⟨#[]⟩, .int .i64 0, .int .i64 0, .int .i64 0] 116)) w.heap.size 116 #[.int .i64 0, .string ⟨#[]⟩, .int .i64 0, .int .i64 0, .int .i64 0] := Blk.new _ _ _
  have HA := Lib.hid (ahead_any h0)
  have bl0 := bl_alloc (Below.refl w.heap.size w) (.cells #[.int .i64 0, .string ⟨#[]⟩, .int .i64 0, .int .i64 0, .int .i64 0] 116)
  unfold takeP
  obtain ⟨t, ht⟩ : ∃ t, headT (L.drop at_) = t := ⟨_, rfl⟩
  rw [ht] at HA ⊢
  by_cases hk : t.kind = k
  · rw [if_pos hk]
    subst hk
    have hk' : (t.kind != t.kind) = false := by simp
    have hg := h.gl
    clear h
    go_enter Tryd.func100, Tryd.ntmps100
    go_wp2_with fail
    refine HA.out.mono ?_; rintro e V ⟨rfl, hb⟩
    have RB := R0.below hb
    have hVb := hb.size
    have h1 := h0.below hb
    have bl1 := bl_step bl0 hb
    have hV : w.heap.size < V.heap.size := by simp only [World.alloc, Array.size_push] at hVb; omega
    have i0 : IntKind.i64.wrap ((at_ : Int) + 1) = (at_ : Int) + 1 := by have := h1.lt; have := h1.cap; rw [IntKind.wrap_i64]; omega
    obtain ⟨s1, s2⟩ := h1.step (by rw [ht]; omega)
    have B := h1.box
    clear h0 R0 HA hVb bl0 h1
    have e1 : ¬ w.heap.size = g := by omega
    have e2 : ¬ V.heap.size = g := by omega
    have e3 : ¬ V.heap.size = w.heap.size := by omega
    have e4 : ¬ g = w.heap.size := by omega
    have e5 : ¬ g = V.heap.size := by omega
    have e6 : ¬ w.heap.size = V.heap.size := by omega
    have r_z : g < V.heap.size := B.lt
    have r_c0 : V.cell? ⟨g, 0, none⟩ = some (.slice A L.length c) := (B.cell 0).trans rfl
    have r_f0 := B.frozen 0
    have r_c1 : V.cell? ⟨g, 1, none⟩ = some (.int .i64 at_) := (B.cell 1).trans rfl
    have r_f1 := B.frozen 1
    have n_z : w.heap.size < V.heap.size := RB.lt
    have n_c0 : V.cell? ⟨w.heap.size, 0, none⟩ = some (.int .i64 0) := (RB.cell 0).trans rfl
    have n_f0 := RB.frozen 0
    have n_c1 : V.cell? ⟨w.heap.size, 1, none⟩ = some (.string ⟨#[]⟩) := (RB.cell 1).trans rfl
    have n_f1 := RB.frozen 1
    have n_c2 : V.cell? ⟨w.heap.size, 2, none⟩ = some (.int .i64 0) := (RB.cell 2).trans rfl
    have n_f2 := RB.frozen 2
    have n_c3 : V.cell? ⟨w.heap.size, 3, none⟩ = some (.int .i64 0) := (RB.cell 3).trans rfl
    have n_f3 := RB.frozen 3
    have n_c4 : V.cell? ⟨w.heap.size, 4, none⟩ = some (.int .i64 0) := (RB.cell 4).trans rfl
    have n_f4 := RB.frozen 4
    go_wp2_with fail
    refine bodyPost_ret (v := (.agg #[.int .i64 (t).kind, .string ⟨(t).text.toArray⟩, .int .i64 (t).num, .int .i64 (t).line, .int .i64 (t).col])) (by simp [results, Tryd.results100, go_sem, e1, e2, e3, e4, e5, e6, n_z, n_c0, n_c1, n_c2, n_c3, n_c4, n_f0, n_f1, n_f2, n_f3, n_f4]) rfl ?_
    have fg : g < w.heap.size := hg
    exact ⟨((((((((Gr.of_below bl1).set (p := ⟨g, 1, none⟩) (.inl rfl) _).set (p := ⟨w.heap.size, 0, none⟩) (.inr (Nat.le_refl _)) _).set (p := ⟨w.heap.size, 1, none⟩) (.inr (Nat.le_refl _)) _).set (p := ⟨w.heap.size, 2, none⟩) (.inr (Nat.le_refl _)) _).set (p := ⟨w.heap.size, 3, none⟩) (.inr (Nat.le_refl _)) _).set (p := ⟨w.heap.size, 4, none⟩) (.inr (Nat.le_refl _)) _).alloc _), .inr ⟨t, at_ + 1, by rw [s1], rfl,
      (((((s2.far (p := ⟨w.heap.size, 0, none⟩) hg _).far (p := ⟨w.heap.size, 1, none⟩) hg _).far (p := ⟨w.heap.size, 2, none⟩) hg _).far (p := ⟨w.heap.size, 3, none⟩) hg _).far (p := ⟨w.heap.size, 4, none⟩) hg _).below (bl_alloc (Below.refl _ _) _)⟩⟩
  · rw [if_neg hk]
    have hk' : (t.kind != k) = true := by simpa using hk
    go_enter Tryd.func100, Tryd.ntmps100
    go_wp2_with fail
    refine HA.out.mono ?_; rintro e V ⟨rfl, hb⟩
    have h2 := (h0.below hb).below (bl_alloc (Below.refl _ _) (.cells #[.int .i64 t.kind, .string ⟨t.text.toArray⟩, .int .i64 t.num, .int .i64 t.line, .int .i64 t.col] 116))
    have bl1 := bl_alloc (bl_step bl0 hb) (.cells #[.int .i64 t.kind, .string ⟨t.text.toArray⟩, .int .i64 t.num, .int .i64 t.line, .int .i64 t.col] 116)
    have HF := Lib.hid (fail_any h2 4)
    rw [ht] at HF
    go_wp2_with fail
    refine HF.out.mono ?_; rintro e V2 ⟨rfl, hb2⟩
    exact ⟨rfl, Gr.of_below (bl_step bl1 hb2), .inl ⟨_, _, _, by rw [failP, ht], rfl⟩⟩
theorem rnum_any (h : Rd w g A c L at_) (lo hi : Int) : Calls Tryd.prog 99 #[.pointer (some ⟨g, 0, none⟩), .int .i64 lo, .int .i64 hi] w fun e w' => Rp w g A c L (numP lo hi (L.drop at_)) (fun v e _ => e = .returned (.int .i64 v)) e w' := by
  have HA := Lib.hid (ahead_any h)
  unfold numP
  obtain ⟨t, ht⟩ : ∃ t, headT (L.drop at_) = t := ⟨_, rfl⟩
  rw [ht] at HA ⊢
  by_cases hk : t.kind = 1
  · rw [if_pos hk]
    by_cases hl : t.num < lo ∨ hi < t.num
    · rw [if_pos hl]
      have hl' : ¬ t.num < lo → hi < t.num := fun h => by omega
      by_cases hl1 : t.num < lo
      · go_enter Tryd.func99, Tryd.ntmps99
        go_wp2_with fail
        refine HA.out.mono ?_; rintro e V ⟨rfl, hb⟩
        have h1 := (h.below hb).below (bl_alloc (Below.refl _ _) (.cells #[.int .i64 t.kind, .string ⟨t.text.toArray⟩, .int .i64 t.num, .int .i64 t.line, .int .i64 t.col] 116))
        have bl1 := bl_alloc hb (.cells #[.int .i64 t.kind, .string ⟨t.text.toArray⟩, .int .i64 t.num, .int .i64 t.line, .int .i64 t.col] 116)
        have HF := Lib.hid (fail_any h1 22)
        rw [ht] at HF
        clear h h1
        rw [hk] at HF bl1
        go_wp2_with fail
        refine HF.out.mono ?_; rintro e V2 ⟨rfl, hb2⟩
        exact ⟨rfl, Gr.of_below (bl_step bl1 hb2), .inl ⟨_, _, _, by rw [failP, ht], rfl⟩⟩
      · have hl2 : hi < t.num := hl' hl1
        go_enter Tryd.func99, Tryd.ntmps99
        go_wp2_with fail
        refine HA.out.mono ?_; rintro e V ⟨rfl, hb⟩
        have h1 := (h.below hb).below (bl_alloc (Below.refl _ _) (.cells #[.int .i64 t.kind, .string ⟨t.text.toArray⟩, .int .i64 t.num, .int .i64 t.line, .int .i64 t.col] 116))
        have bl1 := bl_alloc hb (.cells #[.int .i64 t.kind, .string ⟨t.text.toArray⟩, .int .i64 t.num, .int .i64 t.line, .int .i64 t.col] 116)
        have HF := Lib.hid (fail_any h1 22)
        rw [ht] at HF
        clear h h1 hl hl'
        rw [hk] at HF bl1
        go_wp2_with fail
        refine HF.out.mono ?_; rintro e V2 ⟨rfl, hb2⟩
        exact ⟨rfl, Gr.of_below (bl_step bl1 hb2), .inl ⟨_, _, _, by rw [failP, ht], rfl⟩⟩
    · rw [if_neg hl]
      have hl1 : ¬ t.num < lo := fun h => hl (.inl h)
      have hl2 : ¬ hi < t.num := fun h => hl (.inr h)
      clear hl
      go_enter Tryd.func99, Tryd.ntmps99
      go_wp2_with fail
      refine HA.out.mono ?_; rintro e V ⟨rfl, hb⟩
      have h1 := (h.below hb).below (bl_alloc (Below.refl _ _) (.cells #[.int .i64 t.kind, .string ⟨t.text.toArray⟩, .int .i64 t.num, .int .i64 t.line, .int .i64 t.col] 116))
      have bl1 := bl_alloc hb (.cells #[.int .i64 t.kind, .string ⟨t.text.toArray⟩, .int .i64 t.num, .int .i64 t.line, .int .i64 t.col] 116)
      have HF := Lib.hid (take_any h1 1 (by decide))
      rw [takeP, ht, if_pos hk] at HF
      clear h h1
      rw [hk] at HF bl1
      go_wp2_with fail
      refine HF.out.mono ?_; rintro e V2 ⟨hG, ⟨_, _, _, hp, _⟩ | ⟨t', n, hp, rfl, hR⟩⟩
      · cases hp
      · injection hp with hp1 hp2
        subst hp1
        have hf : ∀ w, (Instr.field 116 (.agg #[.int .i64 (t).kind, .string ⟨(t).text.toArray⟩, .int .i64 (t).num, .int .i64 (t).line, .int .i64 (t).col]) 2).run Tryd.prog w = .ok (.int .i64 t.num) w := fun _ => by kernel_rfl
        rw [hk] at hf
        go_wp2_with fail
        go_ret
        exact ⟨(Gr.of_below bl1).step hG, .inr ⟨_, n, by rw [hp2], rfl, hR⟩⟩
  · rw [if_neg hk]
    have hk' : (t.kind == 1) = false := by simpa using hk
    go_enter Tryd.func99, Tryd.ntmps99
    go_wp2_with fail
    refine HA.out.mono ?_; rintro e V ⟨rfl, hb⟩
    have h1 := (h.below hb).below (bl_alloc (Below.refl _ _) (.cells #[.int .i64 t.kind, .string ⟨t.text.toArray⟩, .int .i64 t.num, .int .i64 t.line, .int .i64 t.col] 116))
    have bl1 := bl_alloc hb (.cells #[.int .i64 t.kind, .string ⟨t.text.toArray⟩, .int .i64 t.num, .int .i64 t.line, .int .i64 t.col] 116)
    have HF := Lib.hid (take_any h1 1 (by decide))
    rw [takeP, ht, if_neg hk] at HF
    clear h h1
    go_wp2_with fail
    refine HF.out.mono ?_; rintro e V2 ⟨hG, ⟨_, _, _, hp, rfl⟩ | ⟨t', n, hp, rfl, hR⟩⟩
    · exact ⟨rfl, (Gr.of_below bl1).step hG, .inl ⟨_, _, _, failP_to hp, rfl⟩⟩
    · cases hp
theorem size_any (h : Rd w g A c L at_) : Calls Tryd.prog 97 #[.pointer (some ⟨g, 0, none⟩)] w fun e w' => Rp w g A c L (numP 0 2147483648 (L.drop at_)) (fun v e _ => e = .returned (.int .i64 v)) e w' := by
  have HA := Lib.hid (rnum_any h 0 2147483648)
  go_enter Tryd.func97, Tryd.ntmps97
  go_wp2_with fail
  refine HA.out.mono ?_; rintro e V ⟨hG, ⟨_, _, _, hp, rfl⟩ | ⟨v, n, hp, rfl, hR⟩⟩
  · exact ⟨rfl, hG, .inl ⟨_, _, _, hp, rfl⟩⟩
  · go_wp2_with fail
    go_ret
    exact ⟨hG, .inr ⟨_, n, hp, rfl, hR⟩⟩
end
end Go.Proofs.YtklomjpnmmaogaaDoor
