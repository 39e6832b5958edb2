/- The document's reader: a word, a number. -/
import Derived.Test.YtklomjpnmmaogaaDoorFB
import Derived.Test.YtklomjpnmmaogaaDoorIS
namespace Go.Proofs.YtklomjpnmmaogaaDoor
open Go Go.RowKit
set_option linter.unusedVariables false
set_option linter.unusedSimpArgs false
set_option maxRecDepth 100000

section
variable {w : World} {g c at_ : Nat} {A : Option Addr} {L : List Tok} {er : Int}
theorem fword_any (h : Rf w g A c L at_ er) (s : List UInt8) : Calls Tryd.prog 58 #[.pointer (some ⟨g, 0, none⟩), .string ⟨s.toArray⟩] w fun e w' => ∃ at' er', e = .returned (.tuple #[]) ∧ FpR w g A c L at_ er (wordP s (L.drop at_)) () w' at' er' := by
  have HI := Lib.hid (fis_any h s)
  unfold wordP
  obtain ⟨b, hb⟩ : ∃ b, isP s (L.drop at_) = b := ⟨_, rfl⟩
  rw [hb] at HI ⊢
  cases b with
  | false =>
    simp only [Bool.false_eq_true, if_false]
    go_enter Tryd.func58, Tryd.ntmps58
    go_wp2_with fail
    refine HI.out.mono ?_; rintro e V ⟨rfl, hb1⟩
    have h2 := h.below hb1
    have HF := Lib.hid (ffail_any h2 4)
    clear HI
    go_wp2_with fail
    refine HF.out.mono ?_; rintro e V2 ⟨rfl, hG, h3⟩
    have G2 := (Gr.of_below hb1).step hG
    have B := h3.box
    by_cases h0 : er = 0
    · rw [if_pos h0] at h3 B
      clear HF
      have s_z : g < V2.heap.size := B.lt
      have s_c0 : V2.cell? ⟨g, 0, none⟩ = some (.slice A L.length c) := (B.cell 0).trans rfl
      have s_f0 := B.frozen 0
      have s_c1 : V2.cell? ⟨g, 1, none⟩ = some (.int .i64 at_) := (B.cell 1).trans rfl
      have s_f1 := B.frozen 1
      have s_c2 : V2.cell? ⟨g, 2, none⟩ = some (.int .i64 4) := (B.cell 2).trans rfl
      have s_f2 := B.frozen 2
      go_wp2_with fail
      refine bodyPost_end (results_none rfl _ _ _) rfl ?_
      exact ⟨at_, 4, rfl, G2, h3, fun h => absurd h0 h, fun _ => .inr ⟨by decide, rfl⟩, Nat.le_refl _⟩
    · rw [if_neg h0] at h3 B
      have b0 : (er == 0) = false := by simpa using h0
      clear HF
      have H0 := Lib.hid h0
      clear h0
      have s_z : g < V2.heap.size := B.lt
      have s_c0 : V2.cell? ⟨g, 0, none⟩ = some (.slice A L.length c) := (B.cell 0).trans rfl
      have s_f0 := B.frozen 0
      have s_c1 : V2.cell? ⟨g, 1, none⟩ = some (.int .i64 at_) := (B.cell 1).trans rfl
      have s_f1 := B.frozen 1
      have s_c2 : V2.cell? ⟨g, 2, none⟩ = some (.int .i64 er) := (B.cell 2).trans rfl
      have s_f2 := B.frozen 2
      go_wp2_with fail
      refine bodyPost_end (results_none rfl _ _ _) rfl ?_
      exact ⟨at_, er, rfl, G2, h3, fun _ => ⟨rfl, rfl⟩, fun h => absurd h H0.out, Nat.le_refl _⟩
  | true =>
    simp only [if_true]
    have hk : ¬ (headT (L.drop at_)).kind = 3 := by unfold isP at hb; simp only [Bool.and_eq_true, decide_eq_true_eq] at hb; omega
    go_enter Tryd.func58, Tryd.ntmps58
    go_wp2_with fail
    refine HI.out.mono ?_; rintro e V ⟨rfl, hb1⟩
    have h2 := h.below hb1
    have B := h2.box
    have i0 := h2.wrap
    have G2 := Gr.of_below (g := g) hb1
    by_cases h0 : er = 0
    · subst h0
      obtain ⟨s1, s2⟩ := h2.step hk
      clear HI hb
      have s_z : g < V.heap.size := B.lt
      have s_c0 : V.cell? ⟨g, 0, none⟩ = some (.slice A L.length c) := (B.cell 0).trans rfl
      have s_f0 := B.frozen 0
      have s_c1 : V.cell? ⟨g, 1, none⟩ = some (.int .i64 at_) := (B.cell 1).trans rfl
      have s_f1 := B.frozen 1
      have s_c2 : V.cell? ⟨g, 2, none⟩ = some (.int .i64 0) := (B.cell 2).trans rfl
      have s_f2 := B.frozen 2
      go_wp2_with fail
      refine bodyPost_end (results_none rfl _ _ _) rfl ?_
      exact ⟨at_ + 1, 0, rfl, G2.set (p := ⟨g, 1, none⟩) (.inl rfl) _, s2, fun h => absurd rfl h, fun _ => .inl ⟨rfl, by rw [s1]⟩, Nat.le_succ _⟩
    · have b0 : (er == 0) = false := by simpa using h0
      clear HI hb
      have H0 := Lib.hid h0
      clear h0
      have s_z : g < V.heap.size := B.lt
      have s_c0 : V.cell? ⟨g, 0, none⟩ = some (.slice A L.length c) := (B.cell 0).trans rfl
      have s_f0 := B.frozen 0
      have s_c1 : V.cell? ⟨g, 1, none⟩ = some (.int .i64 at_) := (B.cell 1).trans rfl
      have s_f1 := B.frozen 1
      have s_c2 : V.cell? ⟨g, 2, none⟩ = some (.int .i64 er) := (B.cell 2).trans rfl
      have s_f2 := B.frozen 2
      go_wp2_with fail
      refine bodyPost_end (results_none rfl _ _ _) rfl ?_
      exact ⟨at_, er, rfl, G2, h2, fun _ => ⟨rfl, rfl⟩, fun h => absurd h H0.out, Nat.le_refl _⟩
/-- What number hands back. -/
def FnPost (w : World) (g : Nat) (A : Option Addr) (c : Nat) (L : List Tok) (at_ : Nat) (er : Int) (p : PR Int) (e : Ending) (w' : World) : Prop := ∃ v at' er', e = .returned (.int .i64 v) ∧ FpR w g A c L at_ er p v w' at' er'
set_option maxHeartbeats 6400000 in
theorem fnum_any (h : Rf w g A c L at_ er) (lo hi : Int) : Calls Tryd.prog 59 #[.pointer (some ⟨g, 0, none⟩), .int .i64 lo, .int .i64 hi] w fun e w' => FnPost w g A c L at_ er (numP lo hi (L.drop at_)) e w' := by
  obtain ⟨hlt, t, ht, hh, -⟩ := h.ends.drop_head
  have HH := Lib.hid hh
  unfold numP
  rw [hh]
  obtain ⟨P, hP⟩ : ∃ P, (if t.kind = 1 then (if t.num < lo ∨ hi < t.num then (failP (L.drop at_) 22 : PR Int) else .ok t.num (L.drop at_).tail) else failP (L.drop at_) 4) = P := ⟨_, rfl⟩
  rw [hP]
  have HP := Lib.hid hP
  clear hP
  have i0 : (0 : Int) ≤ at_ := by omega
  have i1 : (at_ : Int) < L.length := by omega
  have hc := h.cap
  obtain ⟨b, o, rfl, hb, x0, x1, x2, x3, x4⟩ := h.toks.five ht
  have EB := h.box
  have gl := h.gl
  have X0 := x0
  have H := Lib.hid h
  clear ht hh h X0
  have s_z : g < w.heap.size := EB.lt
  have s_c0 : w.cell? ⟨g, 0, none⟩ = some (.slice (some ⟨b, o, none⟩) L.length c) := (EB.cell 0).trans rfl
  have s_f0 := EB.frozen 0
  have s_c1 : w.cell? ⟨g, 1, none⟩ = some (.int .i64 at_) := (EB.cell 1).trans rfl
  have s_f1 := EB.frozen 1
  have s_c2 : w.cell? ⟨g, 2, none⟩ = some (.int .i64 er) := (EB.cell 2).trans rfl
  have s_f2 := EB.frozen 2
  go_enter Tryd.func59, Tryd.ntmps59
  go_wp2_with fail
  refine wp_region_pre (S := fun w' => w'.cell? ⟨g, 0, none⟩ = some (.slice (some ⟨b, o, none⟩) L.length c) ∧ w'.cell? ⟨g, 1, none⟩ = some (.int .i64 at_) ∧ w'.cell? ⟨b, o + at_ * 5, none⟩ = some (.int .i64 t.kind) ∧ w'.cell? ⟨b, o + at_ * 5 + 1, none⟩ = some (.string ⟨t.text.toArray⟩) ∧ w'.cell? ⟨b, o + at_ * 5 + 2, none⟩ = some (.int .i64 t.num) ∧ w'.cell? ⟨b, o + at_ * 5 + 3, none⟩ = some (.int .i64 t.line) ∧ w'.cell? ⟨b, o + at_ * 5 + 4, none⟩ = some (.int .i64 t.col)) 11 (by kernel_rfl) (by kernel_rfl) ?_ (fun hH0 => ?_)
  · exact ⟨((H.out.below (bl_drew (Below.refl _ _))).box.cell 0).trans rfl, ((H.out.below (bl_drew (Below.refl _ _))).box.cell 1).trans rfl, (tok5 (H.out.below (bl_drew (Below.refl _ _))) HH.out).1, (tok5 (H.out.below (bl_drew (Below.refl _ _))) HH.out).2.1, (tok5 (H.out.below (bl_drew (Below.refl _ _))) HH.out).2.2.1, (tok5 (H.out.below (bl_drew (Below.refl _ _))) HH.out).2.2.2.1, (tok5 (H.out.below (bl_drew (Below.refl _ _))) HH.out).2.2.2.2⟩
  refine PreG.take (i := 0) (v := ?vv1) rfl (by kernel_rfl) (by kernel_rfl) (fun _ _ _ h => h) (Or.inl ⟨by rfl, ?hy1⟩) (by assumption) ?rest1
  case hy1 => intro w hSw; (try dsimp only at hSw); first | (go_simp; done) | (go_simp; with_reducible rfl)
  try simp only [Act.put, List.getElem_toArray, List.getElem_cons_zero, List.getElem_cons_succ, List.setIfInBounds_toArray, List.set_cons_zero, List.set_cons_succ]
  refine PreG.take (i := 1) (v := ?vv2) rfl (by kernel_rfl) (by kernel_rfl) (fun _ _ _ h => h) (Or.inl ⟨by rfl, ?hy2⟩) (by assumption) ?rest2
  case hy2 => intro w hSw; (try dsimp only at hSw); first | (go_simp; done) | (go_simp; with_reducible rfl)
  try simp only [Act.put, List.getElem_toArray, List.getElem_cons_zero, List.getElem_cons_succ, List.setIfInBounds_toArray, List.set_cons_zero, List.set_cons_succ]
  refine PreG.take (i := 2) (v := ?vv3) rfl (by kernel_rfl) (by kernel_rfl) (fun _ _ _ h => h) (Or.inl ⟨by rfl, ?hy3⟩) (by assumption) ?rest3
  case hy3 => intro w hSw; (try dsimp only at hSw); first | (go_simp; done) | (go_simp; with_reducible rfl)
  try simp only [Act.put, List.getElem_toArray, List.getElem_cons_zero, List.getElem_cons_succ, List.setIfInBounds_toArray, List.set_cons_zero, List.set_cons_succ]
  refine PreG.take (i := 3) (v := ?vv4) rfl (by kernel_rfl) (by kernel_rfl) (fun _ _ _ h => h) (Or.inl ⟨by rfl, ?hy4⟩) (by assumption) ?rest4
  case hy4 => intro w hSw; (try dsimp only at hSw); first | (go_simp; done) | (go_simp; with_reducible rfl)
  try simp only [Act.put, List.getElem_toArray, List.getElem_cons_zero, List.getElem_cons_succ, List.setIfInBounds_toArray, List.set_cons_zero, List.set_cons_succ]
  refine PreG.take (i := 4) (v := ?vv5) rfl (by kernel_rfl) (by kernel_rfl) (fun _ _ _ h => h) (Or.inl ⟨by rfl, ?hy5⟩) (by assumption) ?rest5
  case hy5 => intro w hSw; (try dsimp only at hSw); first | (go_simp; done) | (go_simp; with_reducible rfl)
  try simp only [Act.put, List.getElem_toArray, List.getElem_cons_zero, List.getElem_cons_succ, List.setIfInBounds_toArray, List.set_cons_zero, List.set_cons_succ]
  refine PreG.take (i := 5) (v := ?vv6) rfl (by kernel_rfl) (by kernel_rfl) (fun _ _ _ h => h) (Or.inl ⟨by rfl, ?hy6⟩) (by assumption) ?rest6
  case hy6 => intro w hSw; (try dsimp only at hSw); first | (go_simp; done) | (go_simp; with_reducible rfl)
  try simp only [Act.put, List.getElem_toArray, List.getElem_cons_zero, List.getElem_cons_succ, List.setIfInBounds_toArray, List.set_cons_zero, List.set_cons_succ]
  refine PreG.take (i := 6) (v := ?vv7) rfl (by kernel_rfl) (by kernel_rfl) (fun _ _ _ h => h) (Or.inl ⟨by rfl, ?hy7⟩) (by assumption) ?rest7
  case hy7 => intro w hSw; (try dsimp only at hSw); first | (go_simp; done) | (go_simp; with_reducible rfl)
  try simp only [Act.put, List.getElem_toArray, List.getElem_cons_zero, List.getElem_cons_succ, List.setIfInBounds_toArray, List.set_cons_zero, List.set_cons_succ]
  refine PreG.take (i := 7) (v := ?vv8) rfl (by kernel_rfl) (by kernel_rfl) (fun _ _ _ h => h) (Or.inl ⟨by rfl, ?hy8⟩) (by assumption) ?rest8
  case hy8 => intro w hSw; (try dsimp only at hSw); first | (go_simp; done) | (go_simp; with_reducible rfl)
  try simp only [Act.put, List.getElem_toArray, List.getElem_cons_zero, List.getElem_cons_succ, List.setIfInBounds_toArray, List.set_cons_zero, List.set_cons_succ]
  refine PreG.take (i := 8) (v := ?vv9) rfl (by kernel_rfl) (by kernel_rfl) (fun _ _ _ h => h) (Or.inl ⟨by rfl, ?hy9⟩) (by assumption) ?rest9
  case hy9 => intro w hSw; (try dsimp only at hSw); first | (go_simp; done) | (go_simp; with_reducible rfl)
  try simp only [Act.put, List.getElem_toArray, List.getElem_cons_zero, List.getElem_cons_succ, List.setIfInBounds_toArray, List.set_cons_zero, List.set_cons_succ]
  refine PreG.take (i := 9) (v := ?vv10) rfl (by kernel_rfl) (by kernel_rfl) (fun _ _ _ h => h) (Or.inl ⟨by rfl, ?hy10⟩) (by assumption) ?rest10
  case hy10 => intro w hSw; (try dsimp only at hSw); first | (go_simp; done) | (go_simp; with_reducible rfl)
  try simp only [Act.put, List.getElem_toArray, List.getElem_cons_zero, List.getElem_cons_succ, List.setIfInBounds_toArray, List.set_cons_zero, List.set_cons_succ]
  refine PreG.ready (rs := [10]) (by kernel_rfl) (by kernel_rfl) ?_
  refine AllPre.cons rfl (fun K hK => ?_) ?_
  · go_simp
    refine hK.out _ _ ?_ (fun hH1 => ?_)
    · exact ⟨(((H.out.below (bl_drew (Below.refl _ _))).below (bl_alloc (Below.refl _ _) _)).box.cell 0).trans rfl, (((H.out.below (bl_drew (Below.refl _ _))).below (bl_alloc (Below.refl _ _) _)).box.cell 1).trans rfl, (tok5 ((H.out.below (bl_drew (Below.refl _ _))).below (bl_alloc (Below.refl _ _) _)) HH.out).1, (tok5 ((H.out.below (bl_drew (Below.refl _ _))).below (bl_alloc (Below.refl _ _) _)) HH.out).2.1, (tok5 ((H.out.below (bl_drew (Below.refl _ _))).below (bl_alloc (Below.refl _ _) _)) HH.out).2.2.1, (tok5 ((H.out.below (bl_drew (Below.refl _ _))).below (bl_alloc (Below.refl _ _) _)) HH.out).2.2.2.1, (tok5 ((H.out.below (bl_drew (Below.refl _ _))).below (bl_alloc (Below.refl _ _) _)) HH.out).2.2.2.2⟩
    clear hK K hH0
    try simp only [Act.put, List.getElem_toArray, List.getElem_cons_zero, List.getElem_cons_succ, List.setIfInBounds_toArray, List.set_cons_zero, List.set_cons_succ]
    refine PreG.done (by kernel_rfl) ?_
    simp only [List.drop_succ_cons, List.drop_zero]
    clear hH1
    have H1 := (H.out.below (bl_alloc (Below.refl _ _) (.cells #[.int .i64 t.kind, .string ⟨t.text.toArray⟩, .int .i64 t.num, .int .i64 t.line, .int .i64 t.col] 77))).below (bl_drew (Below.refl _ _))
    have T1 : Blk (w.alloc (.cells #[.int .i64 t.kind, .string ⟨t.text.toArray⟩, .int .i64 t.num, .int .i64 t.line, .int .i64 t.col] 77)).drew w.heap.size 77 #[.int .i64 t.kind, .string ⟨t.text.toArray⟩, .int .i64 t.num, .int .i64 t.line, .int .i64 t.col] := (Blk.new _ _ _).below (bl_drew (Below.refl _ _))
    have G1 := ((Gr.refl w g).alloc (.cells #[.int .i64 t.kind, .string ⟨t.text.toArray⟩, .int .i64 t.num, .int .i64 t.line, .int .i64 t.col] 77)).drew
    have hne : w.heap.size ≠ g := by omega
    clear x0 x1 x2 x3 x4
    by_cases k1 : t.kind = 1
    · have b1 : (t.kind != 1) = false := by simpa using k1
      have k3 : ¬ t.kind = 3 := by omega
      have K1 := Lib.hid k1
      clear k1
      by_cases l1 : t.num < lo
      · by_cases h0 : er = 0
        · subst h0
          go_wp2_with fail
          refine (ffail_any H1 22).mono ?_; rintro e V2 ⟨rfl, hG2, H2⟩
          rw [if_pos rfl] at H2
          have T2 := T1.gr hG2 hne
          have G2 := G1.step hG2
          clear H1 T1 G1 hG2  s_z s_c0 s_f0 s_c1 s_f1 s_c2 s_f2
          have B_t := T2
          have t_z : w.heap.size < V2.heap.size := B_t.lt
          have t_c0 : V2.cell? ⟨w.heap.size, 0, none⟩ = some (.int .i64 t.kind) := (B_t.cell 0).trans rfl
          have t_f0 := B_t.frozen 0
          have t_c1 : V2.cell? ⟨w.heap.size, 1, none⟩ = some (.string ⟨t.text.toArray⟩) := (B_t.cell 1).trans rfl
          have t_f1 := B_t.frozen 1
          have t_c2 : V2.cell? ⟨w.heap.size, 2, none⟩ = some (.int .i64 t.num) := (B_t.cell 2).trans rfl
          have t_f2 := B_t.frozen 2
          have t_c3 : V2.cell? ⟨w.heap.size, 3, none⟩ = some (.int .i64 t.line) := (B_t.cell 3).trans rfl
          have t_f3 := B_t.frozen 3
          have t_c4 : V2.cell? ⟨w.heap.size, 4, none⟩ = some (.int .i64 t.col) := (B_t.cell 4).trans rfl
          have t_f4 := B_t.frozen 4
          have B_s := H2.box
          have s_z : g < V2.heap.size := B_s.lt
          have s_c0 : V2.cell? ⟨g, 0, none⟩ = some (.slice (some ⟨b, o, none⟩) L.length c) := (B_s.cell 0).trans rfl
          have s_f0 := B_s.frozen 0
          have s_c1 : V2.cell? ⟨g, 1, none⟩ = some (.int .i64 at_) := (B_s.cell 1).trans rfl
          have s_f1 := B_s.frozen 1
          have s_c2 : V2.cell? ⟨g, 2, none⟩ = some (.int .i64 22) := (B_s.cell 2).trans rfl
          have s_f2 := B_s.frozen 2
          go_wp2_with fail
          go_ret
          exact ⟨t.num, at_, 22, rfl, G2, H2, fun h => absurd rfl h, fun _ => .inr ⟨by decide, by rw [← HP.out, if_pos K1.out, if_pos (.inl l1)]; rfl⟩, Nat.le_refl _⟩
        · have b0 : (er == 0) = false := by simpa using h0
          have HE := Lib.hid h0
          clear h0
          go_wp2_with fail
          refine (ffail_any H1 22).mono ?_; rintro e V2 ⟨rfl, hG2, H2⟩
          rw [if_neg HE.out] at H2
          have T2 := T1.gr hG2 hne
          have G2 := G1.step hG2
          clear H1 T1 G1 hG2  s_z s_c0 s_f0 s_c1 s_f1 s_c2 s_f2
          have B_t := T2
          have t_z : w.heap.size < V2.heap.size := B_t.lt
          have t_c0 : V2.cell? ⟨w.heap.size, 0, none⟩ = some (.int .i64 t.kind) := (B_t.cell 0).trans rfl
          have t_f0 := B_t.frozen 0
          have t_c1 : V2.cell? ⟨w.heap.size, 1, none⟩ = some (.string ⟨t.text.toArray⟩) := (B_t.cell 1).trans rfl
          have t_f1 := B_t.frozen 1
          have t_c2 : V2.cell? ⟨w.heap.size, 2, none⟩ = some (.int .i64 t.num) := (B_t.cell 2).trans rfl
          have t_f2 := B_t.frozen 2
          have t_c3 : V2.cell? ⟨w.heap.size, 3, none⟩ = some (.int .i64 t.line) := (B_t.cell 3).trans rfl
          have t_f3 := B_t.frozen 3
          have t_c4 : V2.cell? ⟨w.heap.size, 4, none⟩ = some (.int .i64 t.col) := (B_t.cell 4).trans rfl
          have t_f4 := B_t.frozen 4
          have B_s := H2.box
          have s_z : g < V2.heap.size := B_s.lt
          have s_c0 : V2.cell? ⟨g, 0, none⟩ = some (.slice (some ⟨b, o, none⟩) L.length c) := (B_s.cell 0).trans rfl
          have s_f0 := B_s.frozen 0
          have s_c1 : V2.cell? ⟨g, 1, none⟩ = some (.int .i64 at_) := (B_s.cell 1).trans rfl
          have s_f1 := B_s.frozen 1
          have s_c2 : V2.cell? ⟨g, 2, none⟩ = some (.int .i64 er) := (B_s.cell 2).trans rfl
          have s_f2 := B_s.frozen 2
          go_wp2_with fail
          go_ret
          exact ⟨t.num, at_, er, rfl, G2, H2, fun _ => ⟨rfl, rfl⟩, fun h => absurd h HE.out, Nat.le_refl _⟩
      · by_cases l2 : hi < t.num
        · by_cases h0 : er = 0
          · subst h0
            go_wp2_with fail
            refine (ffail_any H1 22).mono ?_; rintro e V2 ⟨rfl, hG2, H2⟩
            rw [if_pos rfl] at H2
            have T2 := T1.gr hG2 hne
            have G2 := G1.step hG2
            clear H1 T1 G1 hG2  s_z s_c0 s_f0 s_c1 s_f1 s_c2 s_f2
            have B_t := T2
            have t_z : w.heap.size < V2.heap.size := B_t.lt
            have t_c0 : V2.cell? ⟨w.heap.size, 0, none⟩ = some (.int .i64 t.kind) := (B_t.cell 0).trans rfl
            have t_f0 := B_t.frozen 0
            have t_c1 : V2.cell? ⟨w.heap.size, 1, none⟩ = some (.string ⟨t.text.toArray⟩) := (B_t.cell 1).trans rfl
            have t_f1 := B_t.frozen 1
            have t_c2 : V2.cell? ⟨w.heap.size, 2, none⟩ = some (.int .i64 t.num) := (B_t.cell 2).trans rfl
            have t_f2 := B_t.frozen 2
            have t_c3 : V2.cell? ⟨w.heap.size, 3, none⟩ = some (.int .i64 t.line) := (B_t.cell 3).trans rfl
            have t_f3 := B_t.frozen 3
            have t_c4 : V2.cell? ⟨w.heap.size, 4, none⟩ = some (.int .i64 t.col) := (B_t.cell 4).trans rfl
            have t_f4 := B_t.frozen 4
            have B_s := H2.box
            have s_z : g < V2.heap.size := B_s.lt
            have s_c0 : V2.cell? ⟨g, 0, none⟩ = some (.slice (some ⟨b, o, none⟩) L.length c) := (B_s.cell 0).trans rfl
            have s_f0 := B_s.frozen 0
            have s_c1 : V2.cell? ⟨g, 1, none⟩ = some (.int .i64 at_) := (B_s.cell 1).trans rfl
            have s_f1 := B_s.frozen 1
            have s_c2 : V2.cell? ⟨g, 2, none⟩ = some (.int .i64 22) := (B_s.cell 2).trans rfl
            have s_f2 := B_s.frozen 2
            go_wp2_with fail
            go_ret
            exact ⟨t.num, at_, 22, rfl, G2, H2, fun h => absurd rfl h, fun _ => .inr ⟨by decide, by rw [← HP.out, if_pos K1.out, if_pos (.inr l2)]; rfl⟩, Nat.le_refl _⟩
          · have b0 : (er == 0) = false := by simpa using h0
            have HE := Lib.hid h0
            clear h0
            go_wp2_with fail
            refine (ffail_any H1 22).mono ?_; rintro e V2 ⟨rfl, hG2, H2⟩
            rw [if_neg HE.out] at H2
            have T2 := T1.gr hG2 hne
            have G2 := G1.step hG2
            clear H1 T1 G1 hG2  s_z s_c0 s_f0 s_c1 s_f1 s_c2 s_f2
            have B_t := T2
            have t_z : w.heap.size < V2.heap.size := B_t.lt
            have t_c0 : V2.cell? ⟨w.heap.size, 0, none⟩ = some (.int .i64 t.kind) := (B_t.cell 0).trans rfl
            have t_f0 := B_t.frozen 0
            have t_c1 : V2.cell? ⟨w.heap.size, 1, none⟩ = some (.string ⟨t.text.toArray⟩) := (B_t.cell 1).trans rfl
            have t_f1 := B_t.frozen 1
            have t_c2 : V2.cell? ⟨w.heap.size, 2, none⟩ = some (.int .i64 t.num) := (B_t.cell 2).trans rfl
            have t_f2 := B_t.frozen 2
            have t_c3 : V2.cell? ⟨w.heap.size, 3, none⟩ = some (.int .i64 t.line) := (B_t.cell 3).trans rfl
            have t_f3 := B_t.frozen 3
            have t_c4 : V2.cell? ⟨w.heap.size, 4, none⟩ = some (.int .i64 t.col) := (B_t.cell 4).trans rfl
            have t_f4 := B_t.frozen 4
            have B_s := H2.box
            have s_z : g < V2.heap.size := B_s.lt
            have s_c0 : V2.cell? ⟨g, 0, none⟩ = some (.slice (some ⟨b, o, none⟩) L.length c) := (B_s.cell 0).trans rfl
            have s_f0 := B_s.frozen 0
            have s_c1 : V2.cell? ⟨g, 1, none⟩ = some (.int .i64 at_) := (B_s.cell 1).trans rfl
            have s_f1 := B_s.frozen 1
            have s_c2 : V2.cell? ⟨g, 2, none⟩ = some (.int .i64 er) := (B_s.cell 2).trans rfl
            have s_f2 := B_s.frozen 2
            go_wp2_with fail
            go_ret
            exact ⟨t.num, at_, er, rfl, G2, H2, fun _ => ⟨rfl, rfl⟩, fun h => absurd h HE.out, Nat.le_refl _⟩
        · by_cases h0 : er = 0
          · subst h0
            have i2 := H.out.wrap
            obtain ⟨s1, s2⟩ := H.out.step (by rw [HH.out]; exact k3)
            have e7 : ¬ g = w.heap.size := fun h => hne h.symm
            clear H1 T1 G1
            go_wp2_with fail
            go_ret
            exact ⟨t.num, at_ + 1, 0, rfl, ((((Gr.refl w g).set (p := ⟨g, 1, none⟩) (.inl rfl) _).alloc _).drew), (s2.below (bl_alloc (Below.refl _ _) _)).below (bl_drew (Below.refl _ _)), fun h => absurd rfl h, fun _ => .inl ⟨rfl, by rw [← HP.out, if_pos K1.out, if_neg (by omega)]; rw [s1]⟩, Nat.le_succ _⟩
          · have b0 : (er == 0) = false := by simpa using h0
            have HE := Lib.hid h0
            clear h0
            go_wp2_with fail
            go_ret
            exact ⟨t.num, at_, er, rfl, G1, H1, fun _ => ⟨rfl, rfl⟩, fun h => absurd h HE.out, Nat.le_refl _⟩
    · have b1 : (t.kind != 1) = true := by simpa using k1
      by_cases l1 : t.num < lo
      · by_cases h0 : er = 0
        · subst h0
          go_wp2_with fail
          refine (ffail_any H1 4).mono ?_; rintro e V2 ⟨rfl, hG2, H2⟩
          rw [if_pos rfl] at H2
          have T2 := T1.gr hG2 hne
          have G2 := G1.step hG2
          clear H1 T1 G1 hG2  s_z s_c0 s_f0 s_c1 s_f1 s_c2 s_f2
          have B_t := T2
          have t_z : w.heap.size < V2.heap.size := B_t.lt
          have t_c0 : V2.cell? ⟨w.heap.size, 0, none⟩ = some (.int .i64 t.kind) := (B_t.cell 0).trans rfl
          have t_f0 := B_t.frozen 0
          have t_c1 : V2.cell? ⟨w.heap.size, 1, none⟩ = some (.string ⟨t.text.toArray⟩) := (B_t.cell 1).trans rfl
          have t_f1 := B_t.frozen 1
          have t_c2 : V2.cell? ⟨w.heap.size, 2, none⟩ = some (.int .i64 t.num) := (B_t.cell 2).trans rfl
          have t_f2 := B_t.frozen 2
          have t_c3 : V2.cell? ⟨w.heap.size, 3, none⟩ = some (.int .i64 t.line) := (B_t.cell 3).trans rfl
          have t_f3 := B_t.frozen 3
          have t_c4 : V2.cell? ⟨w.heap.size, 4, none⟩ = some (.int .i64 t.col) := (B_t.cell 4).trans rfl
          have t_f4 := B_t.frozen 4
          go_wp2_with fail
          refine (ffail_any H2 22).mono ?_; rintro e V3 ⟨rfl, hG3, H3⟩
          rw [if_neg (by decide)] at H3
          have T3 := T2.gr hG3 hne
          have G3 := G2.step hG3
          clear B_t H2 T2 G2 hG3 t_z t_c0 t_f0 t_c1 t_f1 t_c2 t_f2 t_c3 t_f3 t_c4 t_f4
          have B_t := T3
          have t_z : w.heap.size < V3.heap.size := B_t.lt
          have t_c0 : V3.cell? ⟨w.heap.size, 0, none⟩ = some (.int .i64 t.kind) := (B_t.cell 0).trans rfl
          have t_f0 := B_t.frozen 0
          have t_c1 : V3.cell? ⟨w.heap.size, 1, none⟩ = some (.string ⟨t.text.toArray⟩) := (B_t.cell 1).trans rfl
          have t_f1 := B_t.frozen 1
          have t_c2 : V3.cell? ⟨w.heap.size, 2, none⟩ = some (.int .i64 t.num) := (B_t.cell 2).trans rfl
          have t_f2 := B_t.frozen 2
          have t_c3 : V3.cell? ⟨w.heap.size, 3, none⟩ = some (.int .i64 t.line) := (B_t.cell 3).trans rfl
          have t_f3 := B_t.frozen 3
          have t_c4 : V3.cell? ⟨w.heap.size, 4, none⟩ = some (.int .i64 t.col) := (B_t.cell 4).trans rfl
          have t_f4 := B_t.frozen 4
          have B_s := H3.box
          have s_z : g < V3.heap.size := B_s.lt
          have s_c0 : V3.cell? ⟨g, 0, none⟩ = some (.slice (some ⟨b, o, none⟩) L.length c) := (B_s.cell 0).trans rfl
          have s_f0 := B_s.frozen 0
          have s_c1 : V3.cell? ⟨g, 1, none⟩ = some (.int .i64 at_) := (B_s.cell 1).trans rfl
          have s_f1 := B_s.frozen 1
          have s_c2 : V3.cell? ⟨g, 2, none⟩ = some (.int .i64 4) := (B_s.cell 2).trans rfl
          have s_f2 := B_s.frozen 2
          go_wp2_with fail
          go_ret
          exact ⟨t.num, at_, 4, rfl, G3, H3, fun h => absurd rfl h, fun _ => .inr ⟨by decide, by rw [← HP.out, if_neg k1]; rfl⟩, Nat.le_refl _⟩
        · have b0 : (er == 0) = false := by simpa using h0
          have HE := Lib.hid h0
          clear h0
          go_wp2_with fail
          refine (ffail_any H1 4).mono ?_; rintro e V2 ⟨rfl, hG2, H2⟩
          rw [if_neg HE.out] at H2
          have T2 := T1.gr hG2 hne
          have G2 := G1.step hG2
          clear H1 T1 G1 hG2  s_z s_c0 s_f0 s_c1 s_f1 s_c2 s_f2
          have B_t := T2
          have t_z : w.heap.size < V2.heap.size := B_t.lt
          have t_c0 : V2.cell? ⟨w.heap.size, 0, none⟩ = some (.int .i64 t.kind) := (B_t.cell 0).trans rfl
          have t_f0 := B_t.frozen 0
          have t_c1 : V2.cell? ⟨w.heap.size, 1, none⟩ = some (.string ⟨t.text.toArray⟩) := (B_t.cell 1).trans rfl
          have t_f1 := B_t.frozen 1
          have t_c2 : V2.cell? ⟨w.heap.size, 2, none⟩ = some (.int .i64 t.num) := (B_t.cell 2).trans rfl
          have t_f2 := B_t.frozen 2
          have t_c3 : V2.cell? ⟨w.heap.size, 3, none⟩ = some (.int .i64 t.line) := (B_t.cell 3).trans rfl
          have t_f3 := B_t.frozen 3
          have t_c4 : V2.cell? ⟨w.heap.size, 4, none⟩ = some (.int .i64 t.col) := (B_t.cell 4).trans rfl
          have t_f4 := B_t.frozen 4
          go_wp2_with fail
          refine (ffail_any H2 22).mono ?_; rintro e V3 ⟨rfl, hG3, H3⟩
          rw [if_neg HE.out] at H3
          have T3 := T2.gr hG3 hne
          have G3 := G2.step hG3
          clear B_t H2 T2 G2 hG3 t_z t_c0 t_f0 t_c1 t_f1 t_c2 t_f2 t_c3 t_f3 t_c4 t_f4
          have B_t := T3
          have t_z : w.heap.size < V3.heap.size := B_t.lt
          have t_c0 : V3.cell? ⟨w.heap.size, 0, none⟩ = some (.int .i64 t.kind) := (B_t.cell 0).trans rfl
          have t_f0 := B_t.frozen 0
          have t_c1 : V3.cell? ⟨w.heap.size, 1, none⟩ = some (.string ⟨t.text.toArray⟩) := (B_t.cell 1).trans rfl
          have t_f1 := B_t.frozen 1
          have t_c2 : V3.cell? ⟨w.heap.size, 2, none⟩ = some (.int .i64 t.num) := (B_t.cell 2).trans rfl
          have t_f2 := B_t.frozen 2
          have t_c3 : V3.cell? ⟨w.heap.size, 3, none⟩ = some (.int .i64 t.line) := (B_t.cell 3).trans rfl
          have t_f3 := B_t.frozen 3
          have t_c4 : V3.cell? ⟨w.heap.size, 4, none⟩ = some (.int .i64 t.col) := (B_t.cell 4).trans rfl
          have t_f4 := B_t.frozen 4
          have B_s := H3.box
          have s_z : g < V3.heap.size := B_s.lt
          have s_c0 : V3.cell? ⟨g, 0, none⟩ = some (.slice (some ⟨b, o, none⟩) L.length c) := (B_s.cell 0).trans rfl
          have s_f0 := B_s.frozen 0
          have s_c1 : V3.cell? ⟨g, 1, none⟩ = some (.int .i64 at_) := (B_s.cell 1).trans rfl
          have s_f1 := B_s.frozen 1
          have s_c2 : V3.cell? ⟨g, 2, none⟩ = some (.int .i64 er) := (B_s.cell 2).trans rfl
          have s_f2 := B_s.frozen 2
          go_wp2_with fail
          go_ret
          exact ⟨t.num, at_, er, rfl, G3, H3, fun _ => ⟨rfl, rfl⟩, fun h => absurd h HE.out, Nat.le_refl _⟩
      · by_cases l2 : hi < t.num
        · by_cases h0 : er = 0
          · subst h0
            go_wp2_with fail
            refine (ffail_any H1 4).mono ?_; rintro e V2 ⟨rfl, hG2, H2⟩
            rw [if_pos rfl] at H2
            have T2 := T1.gr hG2 hne
            have G2 := G1.step hG2
            clear H1 T1 G1 hG2  s_z s_c0 s_f0 s_c1 s_f1 s_c2 s_f2
            have B_t := T2
            have t_z : w.heap.size < V2.heap.size := B_t.lt
            have t_c0 : V2.cell? ⟨w.heap.size, 0, none⟩ = some (.int .i64 t.kind) := (B_t.cell 0).trans rfl
            have t_f0 := B_t.frozen 0
            have t_c1 : V2.cell? ⟨w.heap.size, 1, none⟩ = some (.string ⟨t.text.toArray⟩) := (B_t.cell 1).trans rfl
            have t_f1 := B_t.frozen 1
            have t_c2 : V2.cell? ⟨w.heap.size, 2, none⟩ = some (.int .i64 t.num) := (B_t.cell 2).trans rfl
            have t_f2 := B_t.frozen 2
            have t_c3 : V2.cell? ⟨w.heap.size, 3, none⟩ = some (.int .i64 t.line) := (B_t.cell 3).trans rfl
            have t_f3 := B_t.frozen 3
            have t_c4 : V2.cell? ⟨w.heap.size, 4, none⟩ = some (.int .i64 t.col) := (B_t.cell 4).trans rfl
            have t_f4 := B_t.frozen 4
            go_wp2_with fail
            refine (ffail_any H2 22).mono ?_; rintro e V3 ⟨rfl, hG3, H3⟩
            rw [if_neg (by decide)] at H3
            have T3 := T2.gr hG3 hne
            have G3 := G2.step hG3
            clear B_t H2 T2 G2 hG3 t_z t_c0 t_f0 t_c1 t_f1 t_c2 t_f2 t_c3 t_f3 t_c4 t_f4
            have B_t := T3
            have t_z : w.heap.size < V3.heap.size := B_t.lt
            have t_c0 : V3.cell? ⟨w.heap.size, 0, none⟩ = some (.int .i64 t.kind) := (B_t.cell 0).trans rfl
            have t_f0 := B_t.frozen 0
            have t_c1 : V3.cell? ⟨w.heap.size, 1, none⟩ = some (.string ⟨t.text.toArray⟩) := (B_t.cell 1).trans rfl
            have t_f1 := B_t.frozen 1
            have t_c2 : V3.cell? ⟨w.heap.size, 2, none⟩ = some (.int .i64 t.num) := (B_t.cell 2).trans rfl
            have t_f2 := B_t.frozen 2
            have t_c3 : V3.cell? ⟨w.heap.size, 3, none⟩ = some (.int .i64 t.line) := (B_t.cell 3).trans rfl
            have t_f3 := B_t.frozen 3
            have t_c4 : V3.cell? ⟨w.heap.size, 4, none⟩ = some (.int .i64 t.col) := (B_t.cell 4).trans rfl
            have t_f4 := B_t.frozen 4
            have B_s := H3.box
            have s_z : g < V3.heap.size := B_s.lt
            have s_c0 : V3.cell? ⟨g, 0, none⟩ = some (.slice (some ⟨b, o, none⟩) L.length c) := (B_s.cell 0).trans rfl
            have s_f0 := B_s.frozen 0
            have s_c1 : V3.cell? ⟨g, 1, none⟩ = some (.int .i64 at_) := (B_s.cell 1).trans rfl
            have s_f1 := B_s.frozen 1
            have s_c2 : V3.cell? ⟨g, 2, none⟩ = some (.int .i64 4) := (B_s.cell 2).trans rfl
            have s_f2 := B_s.frozen 2
            go_wp2_with fail
            go_ret
            exact ⟨t.num, at_, 4, rfl, G3, H3, fun h => absurd rfl h, fun _ => .inr ⟨by decide, by rw [← HP.out, if_neg k1]; rfl⟩, Nat.le_refl _⟩
          · have b0 : (er == 0) = false := by simpa using h0
            have HE := Lib.hid h0
            clear h0
            go_wp2_with fail
            refine (ffail_any H1 4).mono ?_; rintro e V2 ⟨rfl, hG2, H2⟩
            rw [if_neg HE.out] at H2
            have T2 := T1.gr hG2 hne
            have G2 := G1.step hG2
            clear H1 T1 G1 hG2  s_z s_c0 s_f0 s_c1 s_f1 s_c2 s_f2
            have B_t := T2
            have t_z : w.heap.size < V2.heap.size := B_t.lt
            have t_c0 : V2.cell? ⟨w.heap.size, 0, none⟩ = some (.int .i64 t.kind) := (B_t.cell 0).trans rfl
            have t_f0 := B_t.frozen 0
            have t_c1 : V2.cell? ⟨w.heap.size, 1, none⟩ = some (.string ⟨t.text.toArray⟩) := (B_t.cell 1).trans rfl
            have t_f1 := B_t.frozen 1
            have t_c2 : V2.cell? ⟨w.heap.size, 2, none⟩ = some (.int .i64 t.num) := (B_t.cell 2).trans rfl
            have t_f2 := B_t.frozen 2
            have t_c3 : V2.cell? ⟨w.heap.size, 3, none⟩ = some (.int .i64 t.line) := (B_t.cell 3).trans rfl
            have t_f3 := B_t.frozen 3
            have t_c4 : V2.cell? ⟨w.heap.size, 4, none⟩ = some (.int .i64 t.col) := (B_t.cell 4).trans rfl
            have t_f4 := B_t.frozen 4
            go_wp2_with fail
            refine (ffail_any H2 22).mono ?_; rintro e V3 ⟨rfl, hG3, H3⟩
            rw [if_neg HE.out] at H3
            have T3 := T2.gr hG3 hne
            have G3 := G2.step hG3
            clear B_t H2 T2 G2 hG3 t_z t_c0 t_f0 t_c1 t_f1 t_c2 t_f2 t_c3 t_f3 t_c4 t_f4
            have B_t := T3
            have t_z : w.heap.size < V3.heap.size := B_t.lt
            have t_c0 : V3.cell? ⟨w.heap.size, 0, none⟩ = some (.int .i64 t.kind) := (B_t.cell 0).trans rfl
            have t_f0 := B_t.frozen 0
            have t_c1 : V3.cell? ⟨w.heap.size, 1, none⟩ = some (.string ⟨t.text.toArray⟩) := (B_t.cell 1).trans rfl
            have t_f1 := B_t.frozen 1
            have t_c2 : V3.cell? ⟨w.heap.size, 2, none⟩ = some (.int .i64 t.num) := (B_t.cell 2).trans rfl
            have t_f2 := B_t.frozen 2
            have t_c3 : V3.cell? ⟨w.heap.size, 3, none⟩ = some (.int .i64 t.line) := (B_t.cell 3).trans rfl
            have t_f3 := B_t.frozen 3
            have t_c4 : V3.cell? ⟨w.heap.size, 4, none⟩ = some (.int .i64 t.col) := (B_t.cell 4).trans rfl
            have t_f4 := B_t.frozen 4
            have B_s := H3.box
            have s_z : g < V3.heap.size := B_s.lt
            have s_c0 : V3.cell? ⟨g, 0, none⟩ = some (.slice (some ⟨b, o, none⟩) L.length c) := (B_s.cell 0).trans rfl
            have s_f0 := B_s.frozen 0
            have s_c1 : V3.cell? ⟨g, 1, none⟩ = some (.int .i64 at_) := (B_s.cell 1).trans rfl
            have s_f1 := B_s.frozen 1
            have s_c2 : V3.cell? ⟨g, 2, none⟩ = some (.int .i64 er) := (B_s.cell 2).trans rfl
            have s_f2 := B_s.frozen 2
            go_wp2_with fail
            go_ret
            exact ⟨t.num, at_, er, rfl, G3, H3, fun _ => ⟨rfl, rfl⟩, fun h => absurd h HE.out, Nat.le_refl _⟩
        · by_cases h0 : er = 0
          · subst h0
            go_wp2_with fail
            refine (ffail_any H1 4).mono ?_; rintro e V2 ⟨rfl, hG2, H2⟩
            rw [if_pos rfl] at H2
            have T2 := T1.gr hG2 hne
            have G2 := G1.step hG2
            clear H1 T1 G1 hG2  s_z s_c0 s_f0 s_c1 s_f1 s_c2 s_f2
            have B_t := T2
            have t_z : w.heap.size < V2.heap.size := B_t.lt
            have t_c0 : V2.cell? ⟨w.heap.size, 0, none⟩ = some (.int .i64 t.kind) := (B_t.cell 0).trans rfl
            have t_f0 := B_t.frozen 0
            have t_c1 : V2.cell? ⟨w.heap.size, 1, none⟩ = some (.string ⟨t.text.toArray⟩) := (B_t.cell 1).trans rfl
            have t_f1 := B_t.frozen 1
            have t_c2 : V2.cell? ⟨w.heap.size, 2, none⟩ = some (.int .i64 t.num) := (B_t.cell 2).trans rfl
            have t_f2 := B_t.frozen 2
            have t_c3 : V2.cell? ⟨w.heap.size, 3, none⟩ = some (.int .i64 t.line) := (B_t.cell 3).trans rfl
            have t_f3 := B_t.frozen 3
            have t_c4 : V2.cell? ⟨w.heap.size, 4, none⟩ = some (.int .i64 t.col) := (B_t.cell 4).trans rfl
            have t_f4 := B_t.frozen 4
            have B_s := H2.box
            have s_z : g < V2.heap.size := B_s.lt
            have s_c0 : V2.cell? ⟨g, 0, none⟩ = some (.slice (some ⟨b, o, none⟩) L.length c) := (B_s.cell 0).trans rfl
            have s_f0 := B_s.frozen 0
            have s_c1 : V2.cell? ⟨g, 1, none⟩ = some (.int .i64 at_) := (B_s.cell 1).trans rfl
            have s_f1 := B_s.frozen 1
            have s_c2 : V2.cell? ⟨g, 2, none⟩ = some (.int .i64 4) := (B_s.cell 2).trans rfl
            have s_f2 := B_s.frozen 2
            go_wp2_with fail
            go_ret
            exact ⟨t.num, at_, 4, rfl, G2, H2, fun h => absurd rfl h, fun _ => .inr ⟨by decide, by rw [← HP.out, if_neg k1]; rfl⟩, Nat.le_refl _⟩
          · have b0 : (er == 0) = false := by simpa using h0
            have HE := Lib.hid h0
            clear h0
            go_wp2_with fail
            refine (ffail_any H1 4).mono ?_; rintro e V2 ⟨rfl, hG2, H2⟩
            rw [if_neg HE.out] at H2
            have T2 := T1.gr hG2 hne
            have G2 := G1.step hG2
            clear H1 T1 G1 hG2  s_z s_c0 s_f0 s_c1 s_f1 s_c2 s_f2
            have B_t := T2
            have t_z : w.heap.size < V2.heap.size := B_t.lt
            have t_c0 : V2.cell? ⟨w.heap.size, 0, none⟩ = some (.int .i64 t.kind) := (B_t.cell 0).trans rfl
            have t_f0 := B_t.frozen 0
            have t_c1 : V2.cell? ⟨w.heap.size, 1, none⟩ = some (.string ⟨t.text.toArray⟩) := (B_t.cell 1).trans rfl
            have t_f1 := B_t.frozen 1
            have t_c2 : V2.cell? ⟨w.heap.size, 2, none⟩ = some (.int .i64 t.num) := (B_t.cell 2).trans rfl
            have t_f2 := B_t.frozen 2
            have t_c3 : V2.cell? ⟨w.heap.size, 3, none⟩ = some (.int .i64 t.line) := (B_t.cell 3).trans rfl
            have t_f3 := B_t.frozen 3
            have t_c4 : V2.cell? ⟨w.heap.size, 4, none⟩ = some (.int .i64 t.col) := (B_t.cell 4).trans rfl
            have t_f4 := B_t.frozen 4
            have B_s := H2.box
            have s_z : g < V2.heap.size := B_s.lt
            have s_c0 : V2.cell? ⟨g, 0, none⟩ = some (.slice (some ⟨b, o, none⟩) L.length c) := (B_s.cell 0).trans rfl
            have s_f0 := B_s.frozen 0
            have s_c1 : V2.cell? ⟨g, 1, none⟩ = some (.int .i64 at_) := (B_s.cell 1).trans rfl
            have s_f1 := B_s.frozen 1
            have s_c2 : V2.cell? ⟨g, 2, none⟩ = some (.int .i64 er) := (B_s.cell 2).trans rfl
            have s_f2 := B_s.frozen 2
            go_wp2_with fail
            go_ret
            exact ⟨t.num, at_, er, rfl, G2, H2, fun _ => ⟨rfl, rfl⟩, fun h => absurd h HE.out, Nat.le_refl _⟩
  exact AllPre.nil
end
end Go.Proofs.YtklomjpnmmaogaaDoor
