/- The document's reader, and its small functions. -/
import Derived.Test.YtklomjpnmmaogaaDoorPE
import Derived.BigQuiet
import Derived.Deep.QuietTactic
namespace Go.Proofs.YtklomjpnmmaogaaDoor
open Go Go.RowKit
set_option linter.unusedVariables false
set_option linter.unusedSimpArgs false
set_option maxRecDepth 100000

/-- The document's reader: tokens, where it stands, why they failed. -/
structure Rf (w : World) (g : Nat) (A : Option Addr) (c : Nat) (L : List Tok) (at_ : Nat) (er : Int) : Prop where
  box : Blk w g 71 #[.slice A L.length c, .int .i64 at_, .int .i64 er]
  toks : RdT w g A L
  cap : L.length ≤ c ∧ c ≤ 9223372036854775807
  ends : EndsL (L.drop at_)
theorem PR.assoc {α β γ : Type} (x : PR α) (f : α → List Tok → PR β) (k : β → List Tok → PR γ) : (x.bind f).bind k = x.bind fun a r => (f a r).bind k := by
  cases x <;> rfl
theorem word_is {s : List UInt8} {l : List Tok} (h : isP s l = true) : wordP s l = .ok () l.tail := by unfold wordP; rw [if_pos h]
theorem is_kind3 {s : List UInt8} {l : List Tok} (h : isP s l = true) : ¬ (headT l).kind = 3 := by
  unfold isP at h
  simp only [Bool.and_eq_true, decide_eq_true_eq] at h
  omega
theorem word_len {s : List UInt8} {l r : List Tok} {u : Unit} (h : wordP s l = .ok u r) (hl : 0 < l.length) : r.length + 1 = l.length := by
  unfold wordP at h
  split at h
  · injection h with _ h; rw [← h, List.length_tail]; omega
  · cases h
/-- What has been read agrees: it is read, or it has failed at this place. -/
def Agr {α : Type} (L : List Tok) (at_ : Nat) (er : Int) (v : α) (p : PR α) : Prop :=
  (er = 0 ∧ p = .ok v (L.drop at_)) ∨ (¬ er = 0 ∧ p = .bad (headT (L.drop at_)).line (headT (L.drop at_)).col er)
/-- The whole comes to T: by what is still to be read, or it has failed here. -/
def St {α : Type} (L : List Tok) (at_ : Nat) (er : Int) (T X : PR α) : Prop :=
  (er = 0 → X = T) ∧ (¬ er = 0 → T = .bad (headT (L.drop at_)).line (headT (L.drop at_)).col er)
section
variable {w wr W : World} {g c q at_ at' : Nat} {A : Option Addr} {L : List Tok} {er er' : Int}
theorem Rf.lt (h : Rf w g A c L at_ er) : at_ < L.length := h.ends.drop_head.1
theorem Rf.gl (h : Rf w g A c L at_ er) : g < w.heap.size := h.box.lt
theorem Rf.below (h : Rf w g A c L at_ er) (hb : Below w.heap.size w W) : Rf W g A c L at_ er :=
  ⟨h.box.below hb, h.toks.keep (Alike.of_below hb (by have := h.box.lt; omega)), h.cap, h.ends⟩
theorem Rf.kept (h : Rf wr g A c L at_ er) {row : Option Nat} (hg : wr.grownBy W row) (hr : ∀ k, row = some k → g < k) : Rf W g A c L at_ er :=
  ⟨h.box.grown hg (fun e => by have := hr g e.symm; omega), h.toks.keep (fun p hp => hg.cell_far p (by have := h.box.lt; omega) (fun e => by have := hr p.block e.symm; omega)), h.cap, h.ends⟩
theorem Rf.far (h : Rf w g A c L at_ er) {p : Addr} (hp : g < p.block) (u : Value) : Rf (w.setCell p u) g A c L at_ er :=
  ⟨h.box.far (by omega) u, h.toks.keep (fun q hq => (Gr.set (Gr.refl w p.block) (.inl rfl) u).out.cell_far q (by have := h.box.lt; omega) (by simp; omega)), h.cap, h.ends⟩
theorem Rf.toksSet (h : Rf w g A c L at_ er) (j : Nat) (u : Value) : RdT (w.setCell ⟨g, j, none⟩ u) g A L :=
  h.toks.keep (fun q hq => World.cell?_setCell_other w _ q _ (fun e => by subst e; simp at hq))
theorem Rf.step (h : Rf w g A c L at_ er) (hk : ¬ (headT (L.drop at_)).kind = 3) : L.drop (at_ + 1) = (L.drop at_).tail ∧ Rf (w.setCell ⟨g, 1, none⟩ (.int .i64 ((at_ : Int) + 1))) g A c L (at_ + 1) er := by
  obtain ⟨hlt, t, ht, hh, htl⟩ := h.ends.drop_head
  refine ⟨htl.symm, h.box.put 1 _ (by simp), h.toksSet _ _, h.cap, ?_⟩
  rw [← htl]
  exact h.ends.tail hk
theorem Rf.back (h : Rf w g A c L at_ er) {at0 : Nat} (h0 : EndsL (L.drop at0)) : Rf (w.setCell ⟨g, 1, none⟩ (.int .i64 at0)) g A c L at0 er := ⟨h.box.put 1 _ (by simp), h.toksSet _ _, h.cap, h0⟩
theorem Rf.err (h : Rf w g A c L at_ er) (k : Int) : Rf (w.setCell ⟨g, 2, none⟩ (.int .i64 k)) g A c L at_ k := ⟨h.box.put 2 _ (by simp), h.toksSet _ _, h.cap, h.ends⟩
theorem Rf.wrap (h : Rf w g A c L at_ er) : IntKind.i64.wrap ((at_ : Int) + 1) = (at_ : Int) + 1 := by have := h.lt; have := h.cap; rw [IntKind.wrap_i64]; omega
theorem tok5 {b o : Nat} {t : Tok} (h : Rf w g (some ⟨b, o, none⟩) c L at_ er) (hh : headT (L.drop at_) = t) : w.cell? ⟨b, o + at_ * 5, none⟩ = some (.int .i64 t.kind) ∧ w.cell? ⟨b, o + at_ * 5 + 1, none⟩ = some (.string ⟨t.text.toArray⟩) ∧ w.cell? ⟨b, o + at_ * 5 + 2, none⟩ = some (.int .i64 t.num) ∧ w.cell? ⟨b, o + at_ * 5 + 3, none⟩ = some (.int .i64 t.line) ∧ w.cell? ⟨b, o + at_ * 5 + 4, none⟩ = some (.int .i64 t.col) := by
  obtain ⟨_, t', ht, h2, _⟩ := h.ends.drop_head
  obtain ⟨b', o', e, _, r⟩ := h.toks.five ht
  have e1 : t' = t := h2.symm.trans hh
  subst e1
  injection e with e
  injection e with e2 e3
  subst e2 e3
  exact r
/-- A call has read a piece. -/
structure FpR {α : Type} (w : World) (g : Nat) (A : Option Addr) (c : Nat) (L : List Tok) (at_ : Nat) (er : Int) (p : PR α) (v : α) (w' : World) (at' : Nat) (er' : Int) : Prop where
  gr : Gr w g w'
  rf : Rf w' g A c L at' er'
  kept : ¬ er = 0 → at' = at_ ∧ er' = er
  step : er = 0 → Agr L at' er' v p
  le : at_ ≤ at'
section
variable {α β : Type} {p : PR α} {v : α} {T : PR β} {F : α → List Tok → PR β}
theorem FpR.z (h : FpR w g A c L at_ er p v W at' er') (hz : er' = 0) : er = 0 ∧ p = .ok v (L.drop at') := by
  by_cases h0 : er = 0
  · rcases h.step h0 with ⟨_, h1⟩ | ⟨h1, _⟩
    · exact ⟨h0, h1⟩
    · exact absurd hz h1
  · have := h.kept h0
    omega
theorem St.bind (hS : St L at_ er T (p.bind F)) (h : FpR w g A c L at_ er p v W at' er') : St L at' er' T (F v (L.drop at')) := by
  refine ⟨fun hz => ?_, fun hz => ?_⟩
  · obtain ⟨h0, h1⟩ := h.z hz
    have := hS.1 h0
    rw [h1] at this
    exact this
  · by_cases h0 : er = 0
    · rcases h.step h0 with ⟨h1, _⟩ | ⟨_, h1⟩
      · exact absurd h1 hz
      · have := hS.1 h0
        rw [h1] at this
        exact this.symm
    · obtain ⟨e1, e2⟩ := h.kept h0
      subst e1 e2
      exact hS.2 h0
theorem St.some {X Y : PR β} (hS : St L at_ er T X) (h : ¬ er = 0) : St L at_ er T Y := ⟨fun h0 => absurd h0 h, hS.2⟩
theorem St.fail {k : Int} {X : PR β} (hS : St L at_ 0 T (failP (L.drop at_) k)) (hk : ¬ k = 0) : St L at_ k T X := ⟨fun h0 => absurd h0 hk, fun _ => (hS.1 rfl).symm⟩
theorem St.failb {k : Int} {X : PR β} (hS : St L at_ 0 T ((failP (L.drop at_) k : PR α).bind F)) (hk : ¬ k = 0) : St L at_ k T X := ⟨fun h0 => absurd h0 hk, fun _ => (hS.1 rfl).symm⟩
theorem St.done {x : β} (hS : St L at_ er T (.ok x (L.drop at_))) : Agr L at_ er x T := by
  by_cases h : er = 0
  · exact .inl ⟨h, (hS.1 h).symm⟩
  · exact .inr ⟨h, hS.2 h⟩
theorem St.start {X : PR β} (h : X = T) : St L at_ 0 T X := ⟨fun _ => h, fun h => absurd rfl h⟩
end
/-- The variables: the result, the instance that grows, the state. -/
structure FrF (wr w : World) (g : Nat) (A : Option Addr) (c : Nat) (L : List Tok) (q at_ : Nat) (er : Int) (cs : Array Value) : Prop where
  gr : Gr w g wr
  rf : Rf wr g A c L at_ er
  res : Blk wr w.heap.size 36 #[.int .i64 0, .int .i64 0, .slice none 0 0, .slice none 0 0, .int .i64 0, .slice none 0 0]
  box : Blk wr q 36 cs
  hq : w.heap.size < q
  hg : g < w.heap.size
section
variable {cs cs' : Array Value} {v : Value}
theorem FrF.size (h : FrF wr w g A c L q at_ er cs) : q + 1 ≤ wr.heap.size := h.box.lt
theorem FrF.below (h : FrF wr w g A c L q at_ er cs) (hb : Below wr.heap.size wr W) : FrF W w g A c L q at_ er cs := ⟨h.gr.below hb, h.rf.below hb, h.res.below hb, h.box.below hb, h.hq, h.hg⟩
theorem FrF.alloc (h : FrF wr w g A c L q at_ er cs) (o : Obj) : FrF (wr.alloc o) w g A c L q at_ er cs := h.below (bl_alloc (Below.refl _ _) _)
theorem FrF.meth (h : FrF wr w g A c L q at_ er cs) (hG : Gr wr g W) (hR : Rf W g A c L at' er') : FrF W w g A c L q at' er' cs :=
  ⟨h.gr.step hG, hR, h.res.gr hG (by have := h.hg; omega), h.box.gr hG (by have := h.hg; have := h.hq; omega), h.hq, h.hg⟩
theorem FrF.call {α : Type} {p : PR α} {x : α} (h : FrF wr w g A c L q at_ er cs) (k : FpR wr g A c L at_ er p x W at' er') : FrF W w g A c L q at' er' cs := h.meth k.gr k.rf
theorem FrF.next (h : FrF wr w g A c L q at_ er cs) (hk : ¬ (headT (L.drop at_)).kind = 3) : FrF (wr.setCell ⟨g, 1, none⟩ (.int .i64 ((at_ : Int) + 1))) w g A c L q (at_ + 1) er cs :=
  h.meth ((Gr.refl wr g).set (p := ⟨g, 1, none⟩) (.inl rfl) _) (h.rf.step hk).2
theorem FrF.back (h : FrF wr w g A c L q at_ er cs) {at0 : Nat} (h0 : EndsL (L.drop at0)) : FrF (wr.setCell ⟨g, 1, none⟩ (.int .i64 at0)) w g A c L q at0 er cs :=
  h.meth ((Gr.refl wr g).set (p := ⟨g, 1, none⟩) (.inl rfl) _) (h.rf.back h0)
theorem FrF.put (h : FrF wr w g A c L q at_ er cs) (i : Nat) (u : Value) (e : cs.setIfInBounds i u = cs') : FrF (wr.setCell ⟨q, i, none⟩ u) w g A c L q at_ er cs' :=
  ⟨h.gr.set (p := ⟨q, i, none⟩) (.inr (Nat.le_of_lt h.hq)) u, h.rf.far (p := ⟨q, i, none⟩) (Nat.lt_trans h.hg h.hq) u, h.res.far (p := ⟨q, i, none⟩) (Nat.ne_of_lt h.hq) u, h.box.put i u e, h.hq, h.hg⟩
theorem FrF.set (h : FrF wr w g A c L q at_ er cs) {p : Addr} (hp : q < p.block) (u : Value) : FrF (wr.setCell p u) w g A c L q at_ er cs :=
  have h1 := h.hq
  have h2 := h.hg
  ⟨h.gr.set (p := p) (.inr (by omega)) u, h.rf.far (p := p) (by omega) u, h.res.far (p := p) (by omega) u, h.box.far (by omega) u, h1, h2⟩
theorem FrF.grown (h : FrF wr w g A c L q at_ er cs) (hk : ∀ k, v.ownBlock = some k → q + 1 ≤ k) (hg : wr.grownBy W v.ownBlock) : FrF W w g A c L q at_ er cs :=
  have h1 := h.hq
  have h2 := h.hg
  ⟨h.gr.grown hg (fun k e => by have := hk k e; omega), h.rf.kept hg (fun k e => by have := hk k e; omega), h.res.grown hg (fun e => by have := hk _ e.symm; omega), h.box.grown hg (fun e => by have := hk _ e.symm; omega), h1, h2⟩
end
/-- What knapsack, square and cover hand back. -/
def FkPost (w : World) (g : Nat) (A : Option Addr) (c : Nat) (L : List Tok) (T : PR IData) (e : Ending) (w' : World) : Prop :=
  ∃ I at' er' D1 d1 D2 d2 D3 d3, e = .returned (.agg #[.int .i64 I.kind, .int .i64 I.cap, .slice D1 I.items.length d1, .slice D2 I.cost.length d2, .int .i64 I.size, .slice D3 I.sets.length d3]) ∧ Gr w g w' ∧ Rf w' g A c L at' er' ∧ Agr L at' er' I T ∧ Own3 w' w.heap.size 83 84 I D1 d1 D2 d2 D3 d3
theorem Rf.res6 {r : Nat} (h : Rf w g A c L at_ er) (hr : g < r) (a b c' d e f : Value) : Rf ((((((w.setCell ⟨r, 0, none⟩ a).setCell ⟨r, 1, none⟩ b).setCell ⟨r, 2, none⟩ c').setCell ⟨r, 3, none⟩ d).setCell ⟨r, 4, none⟩ e).setCell ⟨r, 5, none⟩ f) g A c L at_ er :=
  (((((h.far (p := ⟨r, 0, none⟩) hr _).far (p := ⟨r, 1, none⟩) hr _).far (p := ⟨r, 2, none⟩) hr _).far (p := ⟨r, 3, none⟩) hr _).far (p := ⟨r, 4, none⟩) hr _).far (p := ⟨r, 5, none⟩) hr _
theorem FrF.fin {cs : Array Value} (h : FrF wr w g A c L q at_ er cs) {I : IData} {D1 D2 D3 : Option Addr} {d1 d2 d3 : Nat} {T : PR IData} {a b c' d e f v : Value} (hv : v = .agg #[.int .i64 I.kind, .int .i64 I.cap, .slice D1 I.items.length d1, .slice D2 I.cost.length d2, .int .i64 I.size, .slice D3 I.sets.length d3]) (ho : Own3 wr (q + 1) 83 84 I D1 d1 D2 d2 D3 d3) (hS : St L at_ er T (.ok I (L.drop at_))) :
    FkPost w g A c L T (.returned v) ((((((wr.setCell ⟨w.heap.size, 0, none⟩ a).setCell ⟨w.heap.size, 1, none⟩ b).setCell ⟨w.heap.size, 2, none⟩ c').setCell ⟨w.heap.size, 3, none⟩ d).setCell ⟨w.heap.size, 4, none⟩ e).setCell ⟨w.heap.size, 5, none⟩ f) := by
  have h1 := h.hq
  exact ⟨I, at_, er, D1, d1, D2, d2, D3, d3, by rw [hv], h.gr.res6 (Nat.le_refl _) _ _ _ _ _ _, h.rf.res6 h.hg _ _ _ _ _ _, hS.done, (ho.res6 (by omega) _ _ _ _ _ _).more (by omega)⟩
end
end Go.Proofs.YtklomjpnmmaogaaDoor
namespace Go.Proofs.YtklomjpnmmaogaaDoor
open Go Go.RowKit
set_option linter.unusedVariables false
set_option linter.unusedSimpArgs false
set_option maxRecDepth 100000

section
variable {w : World} {g c at_ : Nat} {A : Option Addr} {L : List Tok} {er : Int}
theorem ffail_any (h : Rf w g A c L at_ er) (k : Int) : Calls Tryd.prog 24 #[.pointer (some ⟨g, 0, none⟩), .int .i64 k] w fun e w' => e = .returned (.tuple #[]) ∧ Gr w g w' ∧ Rf w' g A c L at_ (if er = 0 then k else er) := by
  have B := h.box
  by_cases h0 : er = 0
  · have b0 : (er == 0) = true := by simpa using h0
    rw [if_pos h0]
    clear h0
    have s_z : g < w.heap.size := B.lt
    have s_c0 : w.cell? ⟨g, 0, none⟩ = some (.slice A L.length c) := (B.cell 0).trans rfl
    have s_f0 := B.frozen 0
    have s_c1 : w.cell? ⟨g, 1, none⟩ = some (.int .i64 at_) := (B.cell 1).trans rfl
    have s_f1 := B.frozen 1
    have s_c2 : w.cell? ⟨g, 2, none⟩ = some (.int .i64 er) := (B.cell 2).trans rfl
    have s_f2 := B.frozen 2
    go_enter Tryd.func24, Tryd.ntmps24
    go_wp2_with fail
    refine bodyPost_end (results_none rfl _ _ _) rfl ?_
    exact ⟨rfl, (Gr.refl w g).set (p := ⟨g, 2, none⟩) (.inl rfl) _, h.err k⟩
  · have b0 : (er == 0) = false := by simpa using h0
    rw [if_neg h0]
    clear h0
    have s_z : g < w.heap.size := B.lt
    have s_c0 : w.cell? ⟨g, 0, none⟩ = some (.slice A L.length c) := (B.cell 0).trans rfl
    have s_f0 := B.frozen 0
    have s_c1 : w.cell? ⟨g, 1, none⟩ = some (.int .i64 at_) := (B.cell 1).trans rfl
    have s_f1 := B.frozen 1
    have s_c2 : w.cell? ⟨g, 2, none⟩ = some (.int .i64 er) := (B.cell 2).trans rfl
    have s_f2 := B.frozen 2
    go_enter Tryd.func24, Tryd.ntmps24
    go_wp2_with fail
    refine bodyPost_end (results_none rfl _ _ _) rfl ?_
    exact ⟨rfl, Gr.refl w g, h⟩
theorem fis_any (h : Rf w g A c L at_ er) (s : List UInt8) : Calls Tryd.prog 23 #[.pointer (some ⟨g, 0, none⟩), .string ⟨s.toArray⟩] w fun e w' => e = .returned (.bool (isP s (L.drop at_))) ∧ Below w.heap.size w w' := by
  obtain ⟨hlt, t, ht, hh, _⟩ := h.ends.drop_head
  unfold isP
  rw [hh]
  have i0 : (0 : Int) ≤ at_ := by omega
  have i1 : (at_ : Int) < L.length := by omega
  have hc := h.cap
  obtain ⟨b, o, rfl, hb, x0, x1, x2, x3, x4⟩ := h.toks.five ht
  have B := h.box
  have gl := h.gl
  clear h ht hh
  by_cases hk : t.kind = 0
  · have b0 : (t.kind == 0) = true := by simpa using hk
    have e : (decide (t.kind = 0) && decide (t.text = s)) = (t.text == s) := by rw [hk, Bool.eq_iff_iff]; simp
    rw [e]
    clear e hk
    have s_z : g < w.heap.size := B.lt
    have s_c0 : w.cell? ⟨g, 0, none⟩ = some (.slice (some ⟨b, o, none⟩) L.length c) := (B.cell 0).trans rfl
    have s_f0 := B.frozen 0
    have s_c1 : w.cell? ⟨g, 1, none⟩ = some (.int .i64 at_) := (B.cell 1).trans rfl
    have s_f1 := B.frozen 1
    have s_c2 : w.cell? ⟨g, 2, none⟩ = some (.int .i64 er) := (B.cell 2).trans rfl
    have s_f2 := B.frozen 2
    go_enter Tryd.func23, Tryd.ntmps23
    go_wp2_with fail
    go_quiet (fail)
    go_wp2_with fail
    go_ret
    exact ⟨rfl, bl_drewN (Below.refl _ _) _⟩
  · have b0 : (t.kind == 0) = false := by simpa using hk
    have e : (decide (t.kind = 0) && decide (t.text = s)) = false := by simp [hk]
    rw [e]
    clear e hk
    have s_z : g < w.heap.size := B.lt
    have s_c0 : w.cell? ⟨g, 0, none⟩ = some (.slice (some ⟨b, o, none⟩) L.length c) := (B.cell 0).trans rfl
    have s_f0 := B.frozen 0
    have s_c1 : w.cell? ⟨g, 1, none⟩ = some (.int .i64 at_) := (B.cell 1).trans rfl
    have s_f1 := B.frozen 1
    have s_c2 : w.cell? ⟨g, 2, none⟩ = some (.int .i64 er) := (B.cell 2).trans rfl
    have s_f2 := B.frozen 2
    go_enter Tryd.func23, Tryd.ntmps23
    go_wp2_with fail
    go_quiet (fail)
    go_wp2_with fail
    go_ret
    exact ⟨by simp [b0], bl_drewN (Below.refl _ _) _⟩
end
end Go.Proofs.YtklomjpnmmaogaaDoor
