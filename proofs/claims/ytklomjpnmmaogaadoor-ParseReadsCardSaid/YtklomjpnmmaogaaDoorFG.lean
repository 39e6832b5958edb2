/- The document's Parse. -/
import Derived.Test.YtklomjpnmmaogaaDoorFD
import Derived.Test.YtklomjpnmmaogaaDoorFF
import Derived.Test.YtklomjpnmmaogaaDoorPL
import Derived.Test.YtklomjpnmmaogaaDoorLR
namespace Go.Proofs.YtklomjpnmmaogaaDoor
open Go Go.RowKit
set_option linter.unusedVariables false
set_option linter.unusedSimpArgs false
set_option maxRecDepth 100000

theorem is_excl {s s' : List UInt8} {l : List Tok} (h : isP s l = true) (hne : s ≠ s') : isP s' l = false := by
  unfold isP at h ⊢
  simp only [Bool.and_eq_true, decide_eq_true_eq] at h
  have : ¬ (headT l).text = s' := by rw [h.2]; exact hne
  simp [this]
/-- The variables of the document's Parse, as it ends. -/
structure RaR (w V : World) (c0 c1 c2 c3 c4 c5 x0 x1 : Value) : Prop where
  bl : Below w.heap.size w V
  b1 : Blk V w.heap.size 36 #[c0, c1, c2, c3, c4, c5]
  b2 : Blk V (w.heap.size + 1) 37 #[x0, x1]
  b5 : Blk V (w.heap.size + 1 + 1) 36 #[.int .i64 0, .int .i64 0, .slice none 0 0, .slice none 0 0, .int .i64 0, .slice none 0 0]
section
variable {w V W : World} {y g : Nat} {c0 c1 c2 c3 c4 c5 x0 x1 : Value}
theorem RaR.below (h : RaR w V c0 c1 c2 c3 c4 c5 x0 x1) (hb : Below V.heap.size V W) : RaR w W c0 c1 c2 c3 c4 c5 x0 x1 := ⟨bl_step h.bl hb, h.b1.below hb, h.b2.below hb, h.b5.below hb⟩
theorem RaR.gr (h : RaR w V c0 c1 c2 c3 c4 c5 x0 x1) (k : Gr V g W) (hg : w.heap.size + 1 + 1 < g) : RaR w W c0 c1 c2 c3 c4 c5 x0 x1 :=
  ⟨bl_grown h.bl k.out (fun j hj => by injection hj with hj; omega), h.b1.gr k (by omega), h.b2.gr k (by omega), h.b5.gr k (by omega)⟩
theorem RaR.far (h : RaR w V c0 c1 c2 c3 c4 c5 x0 x1) {p : Addr} (hp : w.heap.size + 1 + 1 < p.block) (u : Value) : RaR w (V.setCell p u) c0 c1 c2 c3 c4 c5 x0 x1 :=
  ⟨bl_set h.bl (by omega) u, h.b1.far (by omega) u, h.b2.far (by omega) u, h.b5.far (by omega) u⟩
theorem RaR.far6 {a b c' d e f : Value} (h : RaR w V c0 c1 c2 c3 c4 c5 x0 x1) {p : Nat} (hp : w.heap.size + 1 + 1 < p) : RaR w ((((((V.setCell ⟨p, 0, none⟩ a).setCell ⟨p, 1, none⟩ b).setCell ⟨p, 2, none⟩ c').setCell ⟨p, 3, none⟩ d).setCell ⟨p, 4, none⟩ e).setCell ⟨p, 5, none⟩ f) c0 c1 c2 c3 c4 c5 x0 x1 :=
  (((((h.far (p := ⟨p, 0, none⟩) hp _).far (p := ⟨p, 1, none⟩) hp _).far (p := ⟨p, 2, none⟩) hp _).far (p := ⟨p, 3, none⟩) hp _).far (p := ⟨p, 4, none⟩) hp _).far (p := ⟨p, 5, none⟩) hp _
theorem RaR.put1 {a' b' c' d' e' f' : Value} (h : RaR w V c0 c1 c2 c3 c4 c5 x0 x1) : RaR w ((((((V.setCell ⟨w.heap.size, 0, none⟩ a').setCell ⟨w.heap.size, 1, none⟩ b').setCell ⟨w.heap.size, 2, none⟩ c').setCell ⟨w.heap.size, 3, none⟩ d').setCell ⟨w.heap.size, 4, none⟩ e').setCell ⟨w.heap.size, 5, none⟩ f') a' b' c' d' e' f' x0 x1 :=
  ⟨bl_res6 h.bl (Nat.le_refl _) _ _ _ _ _ _, h.b1.put6, h.b2.far6 (by omega), h.b5.far6 (by omega)⟩
theorem RaR.put2 {x' y' : Value} (h : RaR w V c0 c1 c2 c3 c4 c5 x0 x1) : RaR w ((V.setCell ⟨w.heap.size + 1, 0, none⟩ x').setCell ⟨w.heap.size + 1, 1, none⟩ y') c0 c1 c2 c3 c4 c5 x' y' := by
  have n1 : w.heap.size ≠ w.heap.size + 1 := by omega
  have n2 : w.heap.size + 1 + 1 ≠ w.heap.size + 1 := by omega
  exact ⟨bl_set (bl_set h.bl (p := ⟨w.heap.size + 1, 0, none⟩) (Nat.le_succ _) _) (p := ⟨w.heap.size + 1, 1, none⟩) (Nat.le_succ _) _, (h.b1.far (p := ⟨w.heap.size + 1, 0, none⟩) n1 _).far (p := ⟨w.heap.size + 1, 1, none⟩) n1 _, (h.b2.put 0 x' rfl).put 1 y' rfl, (h.b5.far (p := ⟨w.heap.size + 1, 0, none⟩) n2 _).far (p := ⟨w.heap.size + 1, 1, none⟩) n2 _⟩
end
theorem lexT_err_ne {s : List UInt8} {a b : Nat} {e : Int} (h : lexT s = .err a b e) : ¬ e = 0 := by
  have hpl : PlaceOk 1 (1 + feeds s) (lexT s) := by
    unfold lexT
    split
    · exact ⟨⟨Nat.le_refl _, Nat.le_add_right _ _, Nat.le_refl _⟩, by decide⟩
    · exact lex_place _ s 1 1 false (Nat.le_refl _) (Nat.le_refl _)
  rw [h] at hpl
  exact hpl.2
/-- The cells of which the fault's place is read. -/
structure CelR (V : World) (g bb at_ n c : Nat) (er : Int) (t : Tok) : Prop where
  g0 : V.cell? ⟨g, 0, none⟩ = some (.slice (some ⟨bb, 0, none⟩) n c)
  g1 : V.cell? ⟨g, 1, none⟩ = some (.int .i64 at_)
  g2 : V.cell? ⟨g, 2, none⟩ = some (.int .i64 er)
  x3 : V.cell? ⟨bb, at_ * 5 + 3, none⟩ = some (.int .i64 t.line)
  x4 : V.cell? ⟨bb, at_ * 5 + 4, none⟩ = some (.int .i64 t.col)
theorem CelR.of {V : World} {g bb c at_ : Nat} {L : List Tok} {er : Int} {t : Tok} (h : Rf V g (some ⟨bb, 0, none⟩) c L at_ er) (hh : headT (L.drop at_) = t) : CelR V g bb at_ L.length c er t :=
  ⟨(h.box.cell 0).trans rfl, (h.box.cell 1).trans rfl, (h.box.cell 2).trans rfl, by have := (tok5 h hh).2.2.2.1; rwa [Nat.zero_add] at this, by have := (tok5 h hh).2.2.2.2; rwa [Nat.zero_add] at this⟩
theorem CelR.far {V : World} {g bb c n at_ : Nat} {er : Int} {t : Tok} (h : CelR V g bb at_ n c er t) {p : Addr} (h1 : g ≠ p.block) (h2 : bb ≠ p.block) (u : Value) : CelR (V.setCell p u) g bb at_ n c er t :=
  ⟨(World.cell?_setCell_other V _ _ u (fun e => h1 (by first | rw [e] | rw [← e]))).trans h.g0, (World.cell?_setCell_other V _ _ u (fun e => h1 (by first | rw [e] | rw [← e]))).trans h.g1, (World.cell?_setCell_other V _ _ u (fun e => h1 (by first | rw [e] | rw [← e]))).trans h.g2, (World.cell?_setCell_other V _ _ u (fun e => h2 (by first | rw [e] | rw [← e]))).trans h.x3, (World.cell?_setCell_other V _ _ u (fun e => h2 (by first | rw [e] | rw [← e]))).trans h.x4⟩
theorem CelR.far6 {V : World} {g bb c n at_ p : Nat} {er : Int} {t : Tok} {a b c' d e f : Value} (h : CelR V g bb at_ n c er t) (h1 : g ≠ p) (h2 : bb ≠ p) : CelR ((((((V.setCell ⟨p, 0, none⟩ a).setCell ⟨p, 1, none⟩ b).setCell ⟨p, 2, none⟩ c').setCell ⟨p, 3, none⟩ d).setCell ⟨p, 4, none⟩ e).setCell ⟨p, 5, none⟩ f) g bb at_ n c er t :=
  (((((h.far (p := ⟨p, 0, none⟩) h1 h2 _).far (p := ⟨p, 1, none⟩) h1 h2 _).far (p := ⟨p, 2, none⟩) h1 h2 _).far (p := ⟨p, 3, none⟩) h1 h2 _).far (p := ⟨p, 4, none⟩) h1 h2 _).far (p := ⟨p, 5, none⟩) h1 h2 _
theorem CelR.drew {V : World} {g bb c n at_ : Nat} {er : Int} {t : Tok} (h : CelR V g bb at_ n c er t) : CelR V.drew g bb at_ n c er t := ⟨h.g0, h.g1, h.g2, h.x3, h.x4⟩
/-- What the last region reads. -/
theorem keepS {w V : World} {g bb c n at_ : Nat} {er : Int} {t : Tok} {c0 c1 c2 c3 c4 c5 x0 x1 : Value} (R : RaR w V c0 c1 c2 c3 c4 c5 x0 x1) (X : CelR V g bb at_ n c er t) : V.cell? ⟨w.heap.size + 1 + 1, 0, none⟩ = some (.int .i64 0) ∧ V.cell? ⟨w.heap.size + 1 + 1, 1, none⟩ = some (.int .i64 0) ∧ V.cell? ⟨w.heap.size + 1 + 1, 2, none⟩ = some (.slice none 0 0) ∧ V.cell? ⟨w.heap.size + 1 + 1, 3, none⟩ = some (.slice none 0 0) ∧ V.cell? ⟨w.heap.size + 1 + 1, 4, none⟩ = some (.int .i64 0) ∧ V.cell? ⟨w.heap.size + 1 + 1, 5, none⟩ = some (.slice none 0 0) ∧ V.cell? ⟨g, 0, none⟩ = some (.slice (some ⟨bb, 0, none⟩) n c) ∧ V.cell? ⟨g, 1, none⟩ = some (.int .i64 at_) ∧ V.cell? ⟨g, 2, none⟩ = some (.int .i64 er) ∧ V.cell? ⟨bb, at_ * 5 + 3, none⟩ = some (.int .i64 t.line) ∧ V.cell? ⟨bb, at_ * 5 + 4, none⟩ = some (.int .i64 t.col) :=
  ⟨(R.b5.cell 0).trans rfl, (R.b5.cell 1).trans rfl, (R.b5.cell 2).trans rfl, (R.b5.cell 3).trans rfl, (R.b5.cell 4).trans rfl, (R.b5.cell 5).trans rfl, X.g0, X.g1, X.g2, X.x3, X.x4⟩
/-- What the document's Parse hands back. -/
def RParsePost (w : World) (T : PT) (e : Ending) (w' : World) : Prop :=
  Below w.heap.size w w' ∧ ((∃ a b er, T = .bad a b er ∧ e = .returned (.tuple #[.agg #[.int .i64 0, .int .i64 0, .slice none 0 0, .slice none 0 0, .int .i64 0, .slice none 0 0], .agg #[.int .i64 (a : Nat), .int .i64 (b : Nat)], .int .i64 er])) ∨
    (∃ I D1 d1 D2 d2 D3 d3, T = .ok I ∧ e = .returned (.tuple #[.agg #[.int .i64 I.kind, .int .i64 I.cap, .slice D1 I.items.length d1, .slice D2 I.cost.length d2, .int .i64 I.size, .slice D3 I.sets.length d3], .agg #[.int .i64 0, .int .i64 0], .int .i64 0]) ∧ Own3 w' w.heap.size 83 84 I D1 d1 D2 d2 D3 d3))
set_option maxHeartbeats 25600000 in
theorem rparse_any (s : ByteArray) (w : World) : Calls Tryd.prog 8 #[.string s] w fun e w' => RParsePost w (parseT s.data.toList) e w' := by
  obtain ⟨T, hT⟩ : ∃ T, parseT s.data.toList = T := ⟨_, rfl⟩
  rw [hT]
  unfold parseT at hT
  have b0 := bl_alloc (bl_alloc (bl_alloc (Below.refl w.heap.size w) (.cells #[.int .i64 0, .int .i64 0, .slice none 0 0, .slice none 0 0, .int .i64 0, .slice none 0 0] 36)) (.cells #[.int .i64 0, .int .i64 0] 37)) (.cells #[.int .i64 0, .int .i64 0, .slice none 0 0, .slice none 0 0, .int .i64 0, .slice none 0 0] 36)
  have R0 : RaR w (((w.alloc (.cells #[.int .i64 0, .int .i64 0, .slice none 0 0, .slice none 0 0, .int .i64 0, .slice none 0 0] 36)).alloc (.cells #[.int .i64 0, .int .i64 0] 37)).alloc (.cells #[.int .i64 0, .int .i64 0, .slice none 0 0, .slice none 0 0, .int .i64 0, .slice none 0 0] 36)) (.int .i64 0) (.int .i64 0) (.slice none 0 0) (.slice none 0 0) (.int .i64 0) (.slice none 0 0) (.int .i64 0) (.int .i64 0) :=
    ⟨b0, ((Blk.new _ _ _).alloc _).alloc _, (Blk.new' (by simp) _ _).alloc _, Blk.new' (by simp) _ _⟩
  have HL := Lib.hid (rlex_any s (((w.alloc (.cells #[.int .i64 0, .int .i64 0, .slice none 0 0, .slice none 0 0, .int .i64 0, .slice none 0 0] 36)).alloc (.cells #[.int .i64 0, .int .i64 0] 37)).alloc (.cells #[.int .i64 0, .int .i64 0, .slice none 0 0, .slice none 0 0, .int .i64 0, .slice none 0 0] 36)))
  clear b0
  go_enter Tryd.func8, Tryd.ntmps8
  go_wp2_with fail
  generalize ((w.alloc (.cells #[.int .i64 0, .int .i64 0, .slice none 0 0, .slice none 0 0, .int .i64 0, .slice none 0 0] 36)).alloc (.cells #[.int .i64 0, .int .i64 0] 37)).alloc (.cells #[.int .i64 0, .int .i64 0, .slice none 0 0, .slice none 0 0, .int .i64 0, .slice none 0 0] 36) = W0 at R0 HL ⊢
  refine HL.out.mono ?_; rintro e V ⟨⟨a, b, er, hp, rfl⟩ | ⟨L, D, d, hp, rfl, ho⟩, hb⟩
  · rw [hp] at hT
    have hne := lexT_err_ne hp
    have hne' : (er != 0) = true := by simpa using hne
    have R1 := (R0.below hb).below (bl_alloc (Below.refl _ _) (.cells #[.int .i64 a, .int .i64 b] 37))
    have YB : Blk (V.alloc (.cells #[.int .i64 a, .int .i64 b] 37)) V.heap.size 37 #[.int .i64 a, .int .i64 b] := Blk.new _ _ _
    have hlt := (R0.below hb).b5.lt
    clear HL R0 hb hp hne
    go_wp2_with fail
    generalize V.alloc (.cells #[.int .i64 a, .int .i64 b] 37) = U at R1 YB ⊢
    generalize V.heap.size = y at YB hlt ⊢
    have y1 : y ≠ w.heap.size := by omega
    have y2 : y ≠ w.heap.size + 1 := by omega
    clear hlt
    refine wp_region_pre (S := fun w' => w'.cell? ⟨w.heap.size + 1 + 1, 0, none⟩ = some (.int .i64 0) ∧ w'.cell? ⟨w.heap.size + 1 + 1, 1, none⟩ = some (.int .i64 0) ∧ w'.cell? ⟨w.heap.size + 1 + 1, 2, none⟩ = some (.slice none 0 0) ∧ w'.cell? ⟨w.heap.size + 1 + 1, 3, none⟩ = some (.slice none 0 0) ∧ w'.cell? ⟨w.heap.size + 1 + 1, 4, none⟩ = some (.int .i64 0) ∧ w'.cell? ⟨w.heap.size + 1 + 1, 5, none⟩ = some (.slice none 0 0) ∧ w'.cell? ⟨y, 0, none⟩ = some (.int .i64 a) ∧ w'.cell? ⟨y, 1, none⟩ = some (.int .i64 b)) 5 (by kernel_rfl) (by kernel_rfl) ?_ (fun hH0 => ?_)
    · exact ⟨((R1.below (bl_drew (Below.refl _ _))).b5.cell 0).trans rfl, ((R1.below (bl_drew (Below.refl _ _))).b5.cell 1).trans rfl, ((R1.below (bl_drew (Below.refl _ _))).b5.cell 2).trans rfl, ((R1.below (bl_drew (Below.refl _ _))).b5.cell 3).trans rfl, ((R1.below (bl_drew (Below.refl _ _))).b5.cell 4).trans rfl, ((R1.below (bl_drew (Below.refl _ _))).b5.cell 5).trans rfl, ((YB.below (bl_drew (Below.refl _ _))).cell 0).trans rfl, ((YB.below (bl_drew (Below.refl _ _))).cell 1).trans rfl⟩
    refine PreG.take (i := 0) (v := ?vv1) rfl (by kernel_rfl) (by kernel_rfl) (fun _ _ _ h => h) (Or.inl ⟨by rfl, ?hy1⟩) (by assumption) ?rest1
    case hy1 => intro w hSw; (try dsimp only at hSw); first | (go_simp; done) | (go_simp; with_reducible rfl)
    try simp only [Act.put, List.getElem_toArray, List.getElem_cons_zero, List.getElem_cons_succ, List.setIfInBounds_toArray, List.set_cons_zero, List.set_cons_succ]
    refine PreG.take (i := 1) (v := ?vv2) rfl (by kernel_rfl) (by kernel_rfl) (fun _ _ _ h => h) (Or.inl ⟨by rfl, ?hy2⟩) (by assumption) ?rest2
    case hy2 => intro w hSw; (try dsimp only at hSw); first | (go_simp; done) | (go_simp; with_reducible rfl)
    try simp only [Act.put, List.getElem_toArray, List.getElem_cons_zero, List.getElem_cons_succ, List.setIfInBounds_toArray, List.set_cons_zero, List.set_cons_succ]
    refine PreG.take (i := 2) (v := ?vv3) rfl (by kernel_rfl) (by kernel_rfl) (fun _ _ _ h => h) (Or.inl ⟨by rfl, ?hy3⟩) (by assumption) ?rest3
    case hy3 => intro w hSw; (try dsimp only at hSw); first | (go_simp; done) | (go_simp; with_reducible rfl)
    try simp only [Act.put, List.getElem_toArray, List.getElem_cons_zero, List.getElem_cons_succ, List.setIfInBounds_toArray, List.set_cons_zero, List.set_cons_succ]
    refine PreG.ready (rs := [3]) (by kernel_rfl) (by kernel_rfl) ?_
    refine AllPre.cons rfl (fun K hK => ?_) ?_
    · have R2 := R1.below (bl_drew (Below.refl _ _))
      have Y2 := YB.below (bl_drew (Below.refl _ _))
      clear R1 YB
      generalize U.drew = U5 at R2 Y2 ⊢
      have B5 := R2.b1
      have p_z : w.heap.size < U5.heap.size := B5.lt
      have p_c0 : U5.cell? ⟨w.heap.size, 0, none⟩ = some (.int .i64 0) := (B5.cell 0).trans rfl
      have p_f0 := B5.frozen 0
      have p_c1 : U5.cell? ⟨w.heap.size, 1, none⟩ = some (.int .i64 0) := (B5.cell 1).trans rfl
      have p_f1 := B5.frozen 1
      have p_c2 : U5.cell? ⟨w.heap.size, 2, none⟩ = some (.slice none 0 0) := (B5.cell 2).trans rfl
      have p_f2 := B5.frozen 2
      have p_c3 : U5.cell? ⟨w.heap.size, 3, none⟩ = some (.slice none 0 0) := (B5.cell 3).trans rfl
      have p_f3 := B5.frozen 3
      have p_c4 : U5.cell? ⟨w.heap.size, 4, none⟩ = some (.int .i64 0) := (B5.cell 4).trans rfl
      have p_f4 := B5.frozen 4
      have p_c5 : U5.cell? ⟨w.heap.size, 5, none⟩ = some (.slice none 0 0) := (B5.cell 5).trans rfl
      have p_f5 := B5.frozen 5
      go_simp
      have R3 := R2.put1 (a' := .int .i64 0) (b' := .int .i64 0) (c' := .slice none 0 0) (d' := .slice none 0 0) (e' := .int .i64 0) (f' := .slice none 0 0)
      have Y3 := Y2.far6 (p := w.heap.size) (a := .int .i64 0) (b := .int .i64 0) (c' := .slice none 0 0) (d := .slice none 0 0) (e := .int .i64 0) (f := .slice none 0 0) y1
      clear R2 Y2 B5 p_z p_c0 p_f0 p_c1 p_f1 p_c2 p_f2 p_c3 p_f3 p_c4 p_f4 p_c5 p_f5
      generalize ((((((U5).setCell ⟨w.heap.size, 0, none⟩ (.int .i64 0)).setCell ⟨w.heap.size, 1, none⟩ (.int .i64 0)).setCell ⟨w.heap.size, 2, none⟩ (.slice none 0 0)).setCell ⟨w.heap.size, 3, none⟩ (.slice none 0 0)).setCell ⟨w.heap.size, 4, none⟩ (.int .i64 0)).setCell ⟨w.heap.size, 5, none⟩ (.slice none 0 0) = U6 at R3 Y3 ⊢
      refine hK.out _ _ ?_ (fun hH1 => ?_)
      · exact ⟨(R3.b5.cell 0).trans rfl, (R3.b5.cell 1).trans rfl, (R3.b5.cell 2).trans rfl, (R3.b5.cell 3).trans rfl, (R3.b5.cell 4).trans rfl, (R3.b5.cell 5).trans rfl, (Y3.cell 0).trans rfl, (Y3.cell 1).trans rfl⟩
      clear hK K hH0
      try simp only [Act.put, List.getElem_toArray, List.getElem_cons_zero, List.getElem_cons_succ, List.setIfInBounds_toArray, List.set_cons_zero, List.set_cons_succ]
      refine PreG.ready (rs := [4]) (by kernel_rfl) (by kernel_rfl) ?_
      refine AllPre.cons rfl (fun K hK => ?_) ?_
      · have B6 := R3.b2
        have q_z : w.heap.size + 1 < U6.heap.size := B6.lt
        have q_c0 : U6.cell? ⟨w.heap.size + 1, 0, none⟩ = some (.int .i64 0) := (B6.cell 0).trans rfl
        have q_f0 := B6.frozen 0
        have q_c1 : U6.cell? ⟨w.heap.size + 1, 1, none⟩ = some (.int .i64 0) := (B6.cell 1).trans rfl
        have q_f1 := B6.frozen 1
        go_simp
        have R4 := R3.put2 (x' := .int .i64 a) (y' := .int .i64 b)
        have Y4 := (Y3.far (p := ⟨w.heap.size + 1, 0, none⟩) y2 (.int .i64 a)).far (p := ⟨w.heap.size + 1, 1, none⟩) y2 (.int .i64 b)
        clear R3 Y3 B6 q_z q_c0 q_f0 q_c1 q_f1
        generalize ((U6).setCell ⟨w.heap.size + 1, 0, none⟩ (.int .i64 a)).setCell ⟨w.heap.size + 1, 1, none⟩ (.int .i64 b) = U7 at R4 Y4 ⊢
        refine hK.out _ _ ?_ (fun hH2 => ?_)
        · exact ⟨(R4.b5.cell 0).trans rfl, (R4.b5.cell 1).trans rfl, (R4.b5.cell 2).trans rfl, (R4.b5.cell 3).trans rfl, (R4.b5.cell 4).trans rfl, (R4.b5.cell 5).trans rfl, (Y4.cell 0).trans rfl, (Y4.cell 1).trans rfl⟩
        clear hK K hH1
        try simp only [Act.put, List.getElem_toArray, List.getElem_cons_zero, List.getElem_cons_succ, List.setIfInBounds_toArray, List.set_cons_zero, List.set_cons_succ]
        refine PreG.done (by kernel_rfl) ?_
        simp only [List.drop_succ_cons, List.drop_zero]
        clear hH2
        have B7 := R4.b1
        have B8 := R4.b2
        have p_z : w.heap.size < U7.heap.size := B7.lt
        have p_c0 : U7.cell? ⟨w.heap.size, 0, none⟩ = some (.int .i64 0) := (B7.cell 0).trans rfl
        have p_f0 := B7.frozen 0
        have p_c1 : U7.cell? ⟨w.heap.size, 1, none⟩ = some (.int .i64 0) := (B7.cell 1).trans rfl
        have p_f1 := B7.frozen 1
        have p_c2 : U7.cell? ⟨w.heap.size, 2, none⟩ = some (.slice none 0 0) := (B7.cell 2).trans rfl
        have p_f2 := B7.frozen 2
        have p_c3 : U7.cell? ⟨w.heap.size, 3, none⟩ = some (.slice none 0 0) := (B7.cell 3).trans rfl
        have p_f3 := B7.frozen 3
        have p_c4 : U7.cell? ⟨w.heap.size, 4, none⟩ = some (.int .i64 0) := (B7.cell 4).trans rfl
        have p_f4 := B7.frozen 4
        have p_c5 : U7.cell? ⟨w.heap.size, 5, none⟩ = some (.slice none 0 0) := (B7.cell 5).trans rfl
        have p_f5 := B7.frozen 5
        have q_z : w.heap.size + 1 < U7.heap.size := B8.lt
        have q_c0 : U7.cell? ⟨w.heap.size + 1, 0, none⟩ = some (.int .i64 a) := (B8.cell 0).trans rfl
        have q_f0 := B8.frozen 0
        have q_c1 : U7.cell? ⟨w.heap.size + 1, 1, none⟩ = some (.int .i64 b) := (B8.cell 1).trans rfl
        have q_f1 := B8.frozen 1
        go_wp2_with fail
        refine bodyPost_ret (v := .tuple #[.agg #[.int .i64 0, .int .i64 0, .slice none 0 0, .slice none 0 0, .int .i64 0, .slice none 0 0], .agg #[.int .i64 a, .int .i64 b], .int .i64 er]) (by simp [results, Tryd.results8, go_sem, p_c0, p_c1, p_c2, p_c3, p_c4, p_c5, q_c0, q_c1, p_f0, p_f1, p_f2, p_f3, p_f4, p_f5, q_f0, q_f1, p_z, q_z]) rfl ⟨R4.bl, .inl ⟨a, b, er, hT.symm, rfl⟩⟩
      exact AllPre.nil
    exact AllPre.nil
  · rw [hp] at hT
    have hT' : (wholeP L).out = T := hT
    have hE := lexT_ends hp
    obtain ⟨bb, rfl, hb1, hb2, _, _⟩ := own_lt ho hE.pos
    have hs0 : w.heap.size + 1 + 1 + 1 ≤ W0.heap.size := R0.b5.lt
    have hs1 := hb.size
    have bU := bl_alloc (bl_alloc (Below.refl V.heap.size V) (.cells #[.int .i64 0, .int .i64 0] 37)) (.cells #[.slice (some ⟨bb, 0, none⟩) L.length d, .int .i64 0, .int .i64 0] 71)
    have F0 : Rf ((V.alloc (.cells #[.int .i64 0, .int .i64 0] 37)).alloc (.cells #[.slice (some ⟨bb, 0, none⟩) L.length d, .int .i64 0, .int .i64 0] 71)) (V.heap.size + 1) (some ⟨bb, 0, none⟩) d L 0 0 :=
      ⟨Blk.new' (by simp) _ _, ((RdT.of_own ho).keep (Alike.of_below bU (Nat.le_refl _))).more (Nat.le_succ _), cap_of ho, by simpa using hE⟩
    have R1 := (R0.below hb).below bU
    have hg1 : w.heap.size + 1 + 1 < V.heap.size + 1 := by omega
    have hg2 : bb ≠ V.heap.size + 1 := by omega
    have hbb : w.heap.size + 1 + 1 < bb := by omega
    clear HL R0 hb hp ho bU hT hb1 hb2 hs0 hs1
    go_wp2_with fail
    generalize (V.alloc (.cells #[.int .i64 0, .int .i64 0] 37)).alloc (.cells #[.slice (some ⟨bb, 0, none⟩) L.length d, .int .i64 0, .int .i64 0] 71) = W1 at F0 R1 ⊢
    generalize V.heap.size + 1 = g at F0 hg1 hg2 ⊢
    unfold wholeP bodyP at hT'
    obtain ⟨b0, h0⟩ : ∃ b, isP wKnap L = b := ⟨_, rfl⟩
    cases b0 with
    | true =>
      have v0 := h0
      have v1 := is_excl h0 (show wKnap ≠ wAss by decide)
      have v2 := is_excl h0 (show wKnap ≠ wTsp by decide)
      have v3 := is_excl h0 (show wKnap ≠ wCov by decide)
      have hk3 : ¬ (headT L).kind = 3 := is_kind3 h0
      have HI := Lib.hid (fis_any F0 wKnap)
      rw [List.drop_zero, v0] at HI
      skip
      refine HI.out.mono ?_; rintro e Z0 ⟨rfl, hb⟩
      have G0 := F0.below hb
      have Q0 := R1.below hb
      clear HI hb F0 R1
      have HI := Lib.hid (fis_any G0 wAss)
      rw [List.drop_zero, v1] at HI
      go_wp2_with fail
      refine HI.out.mono ?_; rintro e Z1 ⟨rfl, hb⟩
      have G1 := G0.below hb
      have Q1 := Q0.below hb
      clear HI hb G0 Q0
      have HI := Lib.hid (fis_any G1 wTsp)
      rw [List.drop_zero, v2] at HI
      go_wp2_with fail
      refine HI.out.mono ?_; rintro e Z2 ⟨rfl, hb⟩
      have G2 := G1.below hb
      have Q2 := Q1.below hb
      clear HI hb G1 Q1
      have HI := Lib.hid (fis_any G2 wCov)
      rw [List.drop_zero, v3] at HI
      go_wp2_with fail
      refine HI.out.mono ?_; rintro e Z3 ⟨rfl, hb⟩
      have G3 := G2.below hb
      have Q3 := Q2.below hb
      clear HI hb G2 Q2
      have bA := bl_alloc (Below.refl _ Z3) (.cells #[.int .i64 0, .int .i64 0, .slice none 0 0, .slice none 0 0, .int .i64 0, .slice none 0 0] 36)
      have X5 : Blk (Z3.alloc (.cells #[.int .i64 0, .int .i64 0, .slice none 0 0, .slice none 0 0, .int .i64 0, .slice none 0 0] 36)) Z3.heap.size 36 #[.int .i64 0, .int .i64 0, .slice none 0 0, .slice none 0 0, .int .i64 0, .slice none 0 0] := Blk.new _ _ _
      have F4 := G3.below bA
      have R4 := Q3.below bA
      have hxx : g < Z3.heap.size := G3.gl
      have B5 := Q3.b5
      have hx2 : Z3.heap.size < (Z3.alloc (.cells #[.int .i64 0, .int .i64 0, .slice none 0 0, .slice none 0 0, .int .i64 0, .slice none 0 0] 36)).heap.size := X5.lt
      have n_z : w.heap.size + 1 + 1 < Z3.heap.size := B5.lt
      have n_c0 : Z3.cell? ⟨w.heap.size + 1 + 1, 0, none⟩ = some (.int .i64 0) := (B5.cell 0).trans rfl
      have n_f0 := B5.frozen 0
      have n_c1 : Z3.cell? ⟨w.heap.size + 1 + 1, 1, none⟩ = some (.int .i64 0) := (B5.cell 1).trans rfl
      have n_f1 := B5.frozen 1
      have n_c2 : Z3.cell? ⟨w.heap.size + 1 + 1, 2, none⟩ = some (.slice none 0 0) := (B5.cell 2).trans rfl
      have n_f2 := B5.frozen 2
      have n_c3 : Z3.cell? ⟨w.heap.size + 1 + 1, 3, none⟩ = some (.slice none 0 0) := (B5.cell 3).trans rfl
      have n_f3 := B5.frozen 3
      have n_c4 : Z3.cell? ⟨w.heap.size + 1 + 1, 4, none⟩ = some (.int .i64 0) := (B5.cell 4).trans rfl
      have n_f4 := B5.frozen 4
      have n_c5 : Z3.cell? ⟨w.heap.size + 1 + 1, 5, none⟩ = some (.slice none 0 0) := (B5.cell 5).trans rfl
      have n_f5 := B5.frozen 5
      have S4 := G3.box
      have s_z : g < Z3.heap.size := S4.lt
      have s_c0 : Z3.cell? ⟨g, 0, none⟩ = some (.slice (some ⟨bb, 0, none⟩) L.length d) := (S4.cell 0).trans rfl
      have s_f0 := S4.frozen 0
      have s_c1 : Z3.cell? ⟨g, 1, none⟩ = some (.int .i64 0) := (S4.cell 1).trans rfl
      have s_f1 := S4.frozen 1
      have s_c2 : Z3.cell? ⟨g, 2, none⟩ = some (.int .i64 0) := (S4.cell 2).trans rfl
      have s_f2 := S4.frozen 2
      have bA2 := bA
      have hE1 : EndsL (L.drop 1) := by have := hE.tail hk3; rwa [← List.drop_one] at this
      have F5 : Rf ((Z3.setCell ⟨g, 1, none⟩ (.int .i64 1)).alloc (.cells #[.int .i64 0, .int .i64 0, .slice none 0 0, .slice none 0 0, .int .i64 0, .slice none 0 0] 36)) g (some ⟨bb, 0, none⟩) d L 1 0 := (G3.back hE1).below (bl_alloc (Below.refl _ _) _)
      have hsz : (Z3.setCell ⟨g, 1, none⟩ (.int .i64 1)).heap.size = Z3.heap.size := by simp [World.setCell]
      have R5 := (Q3.far (p := ⟨g, 1, none⟩) hg1 (.int .i64 1)).below (bl_alloc (Below.refl _ _) (.cells #[.int .i64 0, .int .i64 0, .slice none 0 0, .slice none 0 0, .int .i64 0, .slice none 0 0] 36))
      have X6 : Blk ((Z3.setCell ⟨g, 1, none⟩ (.int .i64 1)).alloc (.cells #[.int .i64 0, .int .i64 0, .slice none 0 0, .slice none 0 0, .int .i64 0, .slice none 0 0] 36)) Z3.heap.size 36 #[.int .i64 0, .int .i64 0, .slice none 0 0, .slice none 0 0, .int .i64 0, .slice none 0 0] := by
        have := Blk.new (Z3.setCell ⟨g, 1, none⟩ (.int .i64 1)) 36 #[.int .i64 0, .int .i64 0, .slice none 0 0, .slice none 0 0, .int .i64 0, .slice none 0 0]
        rwa [hsz] at this
      clear F4 R4 X5 bA bA2 hsz G3 Q3 hx2
      go_wp2_with fail
      clear s_z s_c0 s_f0 s_c1 s_f1 s_c2 s_f2 S4 B5 n_z n_c0 n_f0 n_c1 n_f1 n_c2 n_f2 n_c3 n_f3 n_c4 n_f4 n_c5 n_f5
      generalize (Z3.setCell ⟨g, 1, none⟩ (.int .i64 1)).alloc (.cells #[.int .i64 0, .int .i64 0, .slice none 0 0, .slice none 0 0, .int .i64 0, .slice none 0 0] 36) = V5 at F5 R5 X6 ⊢
      have hx2 := X6.lt
      generalize Z3.heap.size = xx at X6 hxx hx2 ⊢
      refine (fknap_any F5).mono ?_; rintro e V6 ⟨I, at6, er6, D1, d1, D2, d2, D3, d3, rfl, hG, F6, hA, O6⟩
      have R6 := R5.gr hG hg1
      have X7 := X6.gr hG (by omega)
      have hx3 := hG.hs
      clear F5 R5 X6 hG
      have x_z : xx < V6.heap.size := X7.lt
      have x_c0 : V6.cell? ⟨xx, 0, none⟩ = some (.int .i64 0) := (X7.cell 0).trans rfl
      have x_f0 := X7.frozen 0
      have x_c1 : V6.cell? ⟨xx, 1, none⟩ = some (.int .i64 0) := (X7.cell 1).trans rfl
      have x_f1 := X7.frozen 1
      have x_c2 : V6.cell? ⟨xx, 2, none⟩ = some (.slice none 0 0) := (X7.cell 2).trans rfl
      have x_f2 := X7.frozen 2
      have x_c3 : V6.cell? ⟨xx, 3, none⟩ = some (.slice none 0 0) := (X7.cell 3).trans rfl
      have x_f3 := X7.frozen 3
      have x_c4 : V6.cell? ⟨xx, 4, none⟩ = some (.int .i64 0) := (X7.cell 4).trans rfl
      have x_f4 := X7.frozen 4
      have x_c5 : V6.cell? ⟨xx, 5, none⟩ = some (.slice none 0 0) := (X7.cell 5).trans rfl
      have x_f5 := X7.frozen 5
      have F8 : Rf (((((((V6).setCell ⟨xx, 0, none⟩ (.int .i64 I.kind)).setCell ⟨xx, 1, none⟩ (.int .i64 I.cap)).setCell ⟨xx, 2, none⟩ (.slice D1 I.items.length d1)).setCell ⟨xx, 3, none⟩ (.slice D2 I.cost.length d2)).setCell ⟨xx, 4, none⟩ (.int .i64 I.size)).setCell ⟨xx, 5, none⟩ (.slice D3 I.sets.length d3)) g (some ⟨bb, 0, none⟩) d L at6 er6 := (((((F6.far (p := ⟨xx, 0, none⟩) hxx _).far (p := ⟨xx, 1, none⟩) hxx _).far (p := ⟨xx, 2, none⟩) hxx _).far (p := ⟨xx, 3, none⟩) hxx _).far (p := ⟨xx, 4, none⟩) hxx _).far (p := ⟨xx, 5, none⟩) hxx _
      have R8 := R6.far6 (p := xx) (by omega) (a := .int .i64 I.kind) (b := .int .i64 I.cap) (c' := .slice D1 I.items.length d1) (d := .slice D2 I.cost.length d2) (e := .int .i64 I.size) (f := .slice D3 I.sets.length d3)
      have X8 := X7.put6 (a' := .int .i64 I.kind) (b' := .int .i64 I.cap) (c2 := .slice D1 I.items.length d1) (d' := .slice D2 I.cost.length d2) (e' := .int .i64 I.size) (f' := .slice D3 I.sets.length d3)
      have O8 := O6.res6 (r := xx) (by omega) (.int .i64 I.kind) (.int .i64 I.cap) (.slice D1 I.items.length d1) (.slice D2 I.cost.length d2) (.int .i64 I.size) (.slice D3 I.sets.length d3)
      clear F6 R6 O6
      go_wp2_with fail
      clear x_z x_c0 x_f0 x_c1 x_f1 x_c2 x_f2 x_c3 x_f3 x_c4 x_f4 x_c5 x_f5 X7
      generalize ((((((V6).setCell ⟨xx, 0, none⟩ (.int .i64 I.kind)).setCell ⟨xx, 1, none⟩ (.int .i64 I.cap)).setCell ⟨xx, 2, none⟩ (.slice D1 I.items.length d1)).setCell ⟨xx, 3, none⟩ (.slice D2 I.cost.length d2)).setCell ⟨xx, 4, none⟩ (.int .i64 I.size)).setCell ⟨xx, 5, none⟩ (.slice D3 I.sets.length d3) = V6 at F8 R8 X8 O8 ⊢
      have F6 := F8
      have R6 := R8
      have X6 := X8
      have O6 := Lib.hid (O8.more (base' := w.heap.size + 1 + 1 + 1) (by omega))
      replace O6 := O6.out
      clear F8 R8 X8 O8 hx2 hx3
      have htl1 : L.tail = L.drop 1 := (List.drop_one).symm
      have hW : ((knapP (L.drop 1)).bind fun x l1 => if (headT l1).kind = 3 then PR.ok x l1 else failP l1 4).out = T := by
        have h := hT'
        rw [v0] at h
        simp only [Bool.false_eq_true, if_false, if_true, htl1] at h
        exact h
      have SS : Hid (er6 = 0 → (headT (L.drop at6)).kind = 3 → T = .ok I) := Lib.hid (fun h1 h2 => by
        rcases hA with ⟨_, hA⟩ | ⟨hA, _⟩
        · rw [hA, PR.bind_ok, if_pos h2] at hW; exact hW.symm
        · exact absurd h1 hA)
      have SN : Hid (er6 = 0 → ¬ (headT (L.drop at6)).kind = 3 → T = .bad (headT (L.drop at6)).line (headT (L.drop at6)).col 4) := Lib.hid (fun h1 h2 => by
        rcases hA with ⟨_, hA⟩ | ⟨hA, _⟩
        · rw [hA, PR.bind_ok, if_neg h2] at hW; exact hW.symm
        · exact absurd h1 hA)
      have SB : Hid (¬ er6 = 0 → T = .bad (headT (L.drop at6)).line (headT (L.drop at6)).col er6) := Lib.hid (fun h1 => by
        rcases hA with ⟨hA, _⟩ | ⟨_, hA⟩
        · exact absurd hA h1
        · rw [hA, PR.bind_bad] at hW; exact hW.symm)
      clear hA hW hT' htl1 hk3 hE1 hE v0 v1 v2 v3 h0
      obtain ⟨_, t, _, hh, htl⟩ := F6.ends.drop_head
      have HH := Lib.hid hh
      have i0 : (0 : Int) ≤ at6 := by omega
      have i1 : (at6 : Int) < L.length := by have := F6.lt; omega
      have ic := F6.cap
      obtain ⟨y0, y1, y2, y3, y4⟩ := tok5 F6 hh
      rw [Nat.zero_add] at y0 y1 y2 y3 y4
      have BS := F6.box
      clear hh htl
      have s_z : g < V6.heap.size := BS.lt
      have s_c0 : V6.cell? ⟨g, 0, none⟩ = some (.slice (some ⟨bb, 0, none⟩) L.length d) := (BS.cell 0).trans rfl
      have s_f0 := BS.frozen 0
      have s_c1 : V6.cell? ⟨g, 1, none⟩ = some (.int .i64 at6) := (BS.cell 1).trans rfl
      have s_f1 := BS.frozen 1
      have s_c2 : V6.cell? ⟨g, 2, none⟩ = some (.int .i64 er6) := (BS.cell 2).trans rfl
      have s_f2 := BS.frozen 2
      by_cases hk : t.kind = 3
      · have b3 : (t.kind != 3) = false := by simpa using hk
        by_cases e0 : er6 = 0
        · subst e0
          have HT := Lib.hid (SS.out rfl (by rw [HH.out]; exact hk))
          clear SS SB hk
          go_wp2_with fail
          go_quiet (fail)
          have bq := bl_drewN (Below.refl V6.heap.size V6) nq
          have F7 := F6.below bq
          have R7 := R6.below bq
          have X7 := X6.below bq
          have O7 := O6.below bq
          clear F6 R6 X6 O6 BS s_z s_c0 s_f0 s_c1 s_f1 s_c2 s_f2 y0 y1 y2 y3 y4 bq i0 i1 ic
          generalize V6.drewN nq = V7 at F7 R7 X7 O7 ⊢
          have BS := F7.box
          have s_z : g < V7.heap.size := BS.lt
          have s_c0 : V7.cell? ⟨g, 0, none⟩ = some (.slice (some ⟨bb, 0, none⟩) L.length d) := (BS.cell 0).trans rfl
          have s_f0 := BS.frozen 0
          have s_c1 : V7.cell? ⟨g, 1, none⟩ = some (.int .i64 at6) := (BS.cell 1).trans rfl
          have s_f1 := BS.frozen 1
          have s_c2 : V7.cell? ⟨g, 2, none⟩ = some (.int .i64 0) := (BS.cell 2).trans rfl
          have s_f2 := BS.frozen 2
          have B7 := R7.b1
          have B8 := R7.b2
          have p_z : w.heap.size < V7.heap.size := B7.lt
          have p_c0 : V7.cell? ⟨w.heap.size, 0, none⟩ = some (.int .i64 0) := (B7.cell 0).trans rfl
          have p_f0 := B7.frozen 0
          have p_c1 : V7.cell? ⟨w.heap.size, 1, none⟩ = some (.int .i64 0) := (B7.cell 1).trans rfl
          have p_f1 := B7.frozen 1
          have p_c2 : V7.cell? ⟨w.heap.size, 2, none⟩ = some (.slice none 0 0) := (B7.cell 2).trans rfl
          have p_f2 := B7.frozen 2
          have p_c3 : V7.cell? ⟨w.heap.size, 3, none⟩ = some (.slice none 0 0) := (B7.cell 3).trans rfl
          have p_f3 := B7.frozen 3
          have p_c4 : V7.cell? ⟨w.heap.size, 4, none⟩ = some (.int .i64 0) := (B7.cell 4).trans rfl
          have p_f4 := B7.frozen 4
          have p_c5 : V7.cell? ⟨w.heap.size, 5, none⟩ = some (.slice none 0 0) := (B7.cell 5).trans rfl
          have p_f5 := B7.frozen 5
          have q_z : w.heap.size + 1 < V7.heap.size := B8.lt
          have q_c0 : V7.cell? ⟨w.heap.size + 1, 0, none⟩ = some (.int .i64 0) := (B8.cell 0).trans rfl
          have q_f0 := B8.frozen 0
          have q_c1 : V7.cell? ⟨w.heap.size + 1, 1, none⟩ = some (.int .i64 0) := (B8.cell 1).trans rfl
          have q_f1 := B8.frozen 1
          have x_z : xx < V7.heap.size := X7.lt
          have x_c0 : V7.cell? ⟨xx, 0, none⟩ = some (.int .i64 I.kind) := (X7.cell 0).trans rfl
          have x_f0 := X7.frozen 0
          have x_c1 : V7.cell? ⟨xx, 1, none⟩ = some (.int .i64 I.cap) := (X7.cell 1).trans rfl
          have x_f1 := X7.frozen 1
          have x_c2 : V7.cell? ⟨xx, 2, none⟩ = some (.slice D1 I.items.length d1) := (X7.cell 2).trans rfl
          have x_f2 := X7.frozen 2
          have x_c3 : V7.cell? ⟨xx, 3, none⟩ = some (.slice D2 I.cost.length d2) := (X7.cell 3).trans rfl
          have x_f3 := X7.frozen 3
          have x_c4 : V7.cell? ⟨xx, 4, none⟩ = some (.int .i64 I.size) := (X7.cell 4).trans rfl
          have x_f4 := X7.frozen 4
          have x_c5 : V7.cell? ⟨xx, 5, none⟩ = some (.slice D3 I.sets.length d3) := (X7.cell 5).trans rfl
          have x_f5 := X7.frozen 5
          have e1 : ¬ xx = w.heap.size := by omega
          have e2 : ¬ xx = w.heap.size + 1 := by omega
          have e3 : ¬ w.heap.size = xx := by omega
          have e4 : ¬ w.heap.size + 1 = xx := by omega
          go_wp2_with fail
          refine bodyPost_ret (v := .tuple #[.agg #[.int .i64 I.kind, .int .i64 I.cap, .slice D1 I.items.length d1, .slice D2 I.cost.length d2, .int .i64 I.size, .slice D3 I.sets.length d3], .agg #[.int .i64 0, .int .i64 0], .int .i64 0]) (by simp [results, Tryd.results8, go_sem, p_c0, p_c1, p_c2, p_c3, p_c4, p_c5, q_c0, q_c1, p_f0, p_f1, p_f2, p_f3, p_f4, p_f5, q_f0, q_f1, p_z, q_z]) rfl ⟨(R7.put1.put2).bl, .inr ⟨I, D1, d1, D2, d2, D3, d3, HT.out, rfl, ?_⟩⟩
          have O8 := ((O7.more (base' := w.heap.size + 1 + 1) (by omega)).res6 (r := w.heap.size) (by omega) (.int .i64 I.kind) (.int .i64 I.cap) (.slice D1 I.items.length d1) (.slice D2 I.cost.length d2) (.int .i64 I.size) (.slice D3 I.sets.length d3)).set (p := ⟨w.heap.size + 1, 0, none⟩) (Nat.lt_succ_self _) (.int .i64 0) |>.set (p := ⟨w.heap.size + 1, 1, none⟩) (Nat.lt_succ_self _) (.int .i64 0)
          exact O8.more (by omega)
        · have b4 : (er6 != 0) = true := by simpa using e0
          have HT : Hid (T = .bad t.line t.col er6) := Lib.hid (by rw [← HH.out]; exact SB.out e0)
          clear SS SB hk e0
          go_wp2_with fail
          go_quiet (fail)
          have bq := bl_drewN (Below.refl V6.heap.size V6) nq
          have F7 := F6.below bq
          have R7 := R6.below bq
          have X7 := X6.below bq
          have O7 := O6.below bq
          clear F6 R6 X6 O6 BS s_z s_c0 s_f0 s_c1 s_f1 s_c2 s_f2 y0 y1 y2 y3 y4 bq i0 i1 ic
          generalize V6.drewN nq = V7 at F7 R7 X7 O7 ⊢
          have BS := F7.box
          have s_z : g < V7.heap.size := BS.lt
          have s_c0 : V7.cell? ⟨g, 0, none⟩ = some (.slice (some ⟨bb, 0, none⟩) L.length d) := (BS.cell 0).trans rfl
          have s_f0 := BS.frozen 0
          have s_c1 : V7.cell? ⟨g, 1, none⟩ = some (.int .i64 at6) := (BS.cell 1).trans rfl
          have s_f1 := BS.frozen 1
          have s_c2 : V7.cell? ⟨g, 2, none⟩ = some (.int .i64 er6) := (BS.cell 2).trans rfl
          have s_f2 := BS.frozen 2
          go_wp2_with fail
          clear BS s_z s_c0 s_f0 s_c1 s_f1 s_c2 s_f2 X7 O7
          have XC := CelR.of F7 HH.out
          have j0 : (0 : Int) ≤ at6 := by omega
          have j1 : (at6 : Int) < L.length := by have := F7.lt; omega
          have jc := F7.cap
          have B1 := R7.b1
          have B2 := R7.b2
          have bd := bl_drew (Below.refl _ V7)
          have K1 := Lib.hid (keepS (R7.below bd) XC.drew)
          have Ra := R7.put1 (a' := .int .i64 0) (b' := .int .i64 0) (c' := .slice none 0 0) (d' := .slice none 0 0) (e' := .int .i64 0) (f' := .slice none 0 0)
          have Xa := XC.far6 (p := w.heap.size) (a := .int .i64 0) (b := .int .i64 0) (c' := .slice none 0 0) (d := .slice none 0 0) (e := .int .i64 0) (f := .slice none 0 0) (by omega) (by omega)
          have K2 := Lib.hid (keepS (Ra.below (bl_drew (Below.refl _ _))) Xa.drew)
          have Rb := Ra.put2 (x' := .int .i64 t.line) (y' := .int .i64 t.col)
          have Xb := (Xa.far (p := ⟨w.heap.size + 1, 0, none⟩) (by show _ ≠ w.heap.size + 1; omega) (by show _ ≠ w.heap.size + 1; omega) (.int .i64 t.line)).far (p := ⟨w.heap.size + 1, 1, none⟩) (by show _ ≠ w.heap.size + 1; omega) (by show _ ≠ w.heap.size + 1; omega) (.int .i64 t.col)
          have K3 := Lib.hid (keepS (Rb.below (bl_drew (Below.refl _ _))) Xb.drew)
          have RB := Lib.hid (Rb.below (bl_drew (Below.refl _ _))).bl
          clear F7 R7 XC Ra Xa Rb Xb bd
          have p_z : w.heap.size < V7.heap.size := B1.lt
          have p_c0 : V7.cell? ⟨w.heap.size, 0, none⟩ = some (.int .i64 0) := (B1.cell 0).trans rfl
          have p_f0 := B1.frozen 0
          have p_c1 : V7.cell? ⟨w.heap.size, 1, none⟩ = some (.int .i64 0) := (B1.cell 1).trans rfl
          have p_f1 := B1.frozen 1
          have p_c2 : V7.cell? ⟨w.heap.size, 2, none⟩ = some (.slice none 0 0) := (B1.cell 2).trans rfl
          have p_f2 := B1.frozen 2
          have p_c3 : V7.cell? ⟨w.heap.size, 3, none⟩ = some (.slice none 0 0) := (B1.cell 3).trans rfl
          have p_f3 := B1.frozen 3
          have p_c4 : V7.cell? ⟨w.heap.size, 4, none⟩ = some (.int .i64 0) := (B1.cell 4).trans rfl
          have p_f4 := B1.frozen 4
          have p_c5 : V7.cell? ⟨w.heap.size, 5, none⟩ = some (.slice none 0 0) := (B1.cell 5).trans rfl
          have p_f5 := B1.frozen 5
          have q_z : w.heap.size + 1 < V7.heap.size := B2.lt
          have q_c0 : V7.cell? ⟨w.heap.size + 1, 0, none⟩ = some (.int .i64 0) := (B2.cell 0).trans rfl
          have q_f0 := B2.frozen 0
          have q_c1 : V7.cell? ⟨w.heap.size + 1, 1, none⟩ = some (.int .i64 0) := (B2.cell 1).trans rfl
          have q_f1 := B2.frozen 1
          go_region_held3 (fun w' => w'.cell? ⟨w.heap.size + 1 + 1, 0, none⟩ = some (.int .i64 0) ∧ w'.cell? ⟨w.heap.size + 1 + 1, 1, none⟩ = some (.int .i64 0) ∧ w'.cell? ⟨w.heap.size + 1 + 1, 2, none⟩ = some (.slice none 0 0) ∧ w'.cell? ⟨w.heap.size + 1 + 1, 3, none⟩ = some (.slice none 0 0) ∧ w'.cell? ⟨w.heap.size + 1 + 1, 4, none⟩ = some (.int .i64 0) ∧ w'.cell? ⟨w.heap.size + 1 + 1, 5, none⟩ = some (.slice none 0 0) ∧ w'.cell? ⟨g, 0, none⟩ = some (.slice (some ⟨bb, 0, none⟩) L.length d) ∧ w'.cell? ⟨g, 1, none⟩ = some (.int .i64 at6) ∧ w'.cell? ⟨g, 2, none⟩ = some (.int .i64 er6) ∧ w'.cell? ⟨bb, at6 * 5 + 3, none⟩ = some (.int .i64 t.line) ∧ w'.cell? ⟨bb, at6 * 5 + 4, none⟩ = some (.int .i64 t.col)) (first | with_reducible exact K1.out | with_reducible exact K2.out | with_reducible exact K3.out) (fail)
          go_wp2_with fail
          refine bodyPost_ret (v := .tuple #[.agg #[.int .i64 0, .int .i64 0, .slice none 0 0, .slice none 0 0, .int .i64 0, .slice none 0 0], .agg #[.int .i64 t.line, .int .i64 t.col], .int .i64 er6]) (by simp [results, Tryd.results8, go_sem, p_z, q_z, p_f0, p_f1, p_f2, p_f3, p_f4, p_f5, q_f0, q_f1, p_c0, p_c1, p_c2, p_c3, p_c4, p_c5, q_c0, q_c1]) rfl ⟨RB.out, .inl ⟨t.line, t.col, er6, HT.out, rfl⟩⟩
      · have b3 : (t.kind != 3) = true := by simpa using hk
        obtain ⟨ee, hee⟩ : ∃ ee : Int, (if er6 = 0 then (4 : Int) else er6) = ee := ⟨_, rfl⟩
        have HT : Hid (T = .bad t.line t.col ee ∧ ¬ ee = 0) := by
          by_cases e0 : er6 = 0
          · rw [if_pos e0] at hee
            subst hee
            exact Lib.hid ⟨by rw [← HH.out]; exact SN.out e0 (by rw [HH.out]; exact hk), by decide⟩
          · rw [if_neg e0] at hee
            subst hee
            exact Lib.hid ⟨by rw [← HH.out]; exact SB.out e0, e0⟩
        have HEE := Lib.hid hee
        clear SS SB SN hk hee
        go_wp2_with fail
        go_quiet (fail)
        have bq := bl_drewN (Below.refl V6.heap.size V6) nq
        have F7 := F6.below bq
        have R7 := R6.below bq
        have X7 := X6.below bq
        have O7 := O6.below bq
        clear F6 R6 X6 O6 BS s_z s_c0 s_f0 s_c1 s_f1 s_c2 s_f2 y0 y1 y2 y3 y4 bq i0 i1 ic
        generalize V6.drewN nq = V7 at F7 R7 X7 O7 ⊢
        go_wp2_with fail
        refine (ffail_any F7 4).mono ?_; rintro e V8 ⟨rfl, hG8, F8⟩
        rw [HEE.out] at F8
        have R8 := R7.gr hG8 (by omega)
        clear F7 R7 X7 O7 hG8
        have BS := F8.box
        have s_z : g < V8.heap.size := BS.lt
        have s_c0 : V8.cell? ⟨g, 0, none⟩ = some (.slice (some ⟨bb, 0, none⟩) L.length d) := (BS.cell 0).trans rfl
        have s_f0 := BS.frozen 0
        have s_c1 : V8.cell? ⟨g, 1, none⟩ = some (.int .i64 at6) := (BS.cell 1).trans rfl
        have s_f1 := BS.frozen 1
        have s_c2 : V8.cell? ⟨g, 2, none⟩ = some (.int .i64 ee) := (BS.cell 2).trans rfl
        have s_f2 := BS.frozen 2
        have b4 : (ee != 0) = true := by simpa using HT.out.2
        go_wp2_with fail
        clear BS s_z s_c0 s_f0 s_c1 s_f1 s_c2 s_f2
        have XC := CelR.of F8 HH.out
        have j0 : (0 : Int) ≤ at6 := by omega
        have j1 : (at6 : Int) < L.length := by have := F8.lt; omega
        have jc := F8.cap
        have B1 := R8.b1
        have B2 := R8.b2
        have bd := bl_drew (Below.refl _ V8)
        have K1 := Lib.hid (keepS (R8.below bd) XC.drew)
        have Ra := R8.put1 (a' := .int .i64 0) (b' := .int .i64 0) (c' := .slice none 0 0) (d' := .slice none 0 0) (e' := .int .i64 0) (f' := .slice none 0 0)
        have Xa := XC.far6 (p := w.heap.size) (a := .int .i64 0) (b := .int .i64 0) (c' := .slice none 0 0) (d := .slice none 0 0) (e := .int .i64 0) (f := .slice none 0 0) (by omega) (by omega)
        have K2 := Lib.hid (keepS (Ra.below (bl_drew (Below.refl _ _))) Xa.drew)
        have Rb := Ra.put2 (x' := .int .i64 t.line) (y' := .int .i64 t.col)
        have Xb := (Xa.far (p := ⟨w.heap.size + 1, 0, none⟩) (by show _ ≠ w.heap.size + 1; omega) (by show _ ≠ w.heap.size + 1; omega) (.int .i64 t.line)).far (p := ⟨w.heap.size + 1, 1, none⟩) (by show _ ≠ w.heap.size + 1; omega) (by show _ ≠ w.heap.size + 1; omega) (.int .i64 t.col)
        have K3 := Lib.hid (keepS (Rb.below (bl_drew (Below.refl _ _))) Xb.drew)
        have RB := Lib.hid (Rb.below (bl_drew (Below.refl _ _))).bl
        clear F8 R8 XC Ra Xa Rb Xb bd
        have p_z : w.heap.size < V8.heap.size := B1.lt
        have p_c0 : V8.cell? ⟨w.heap.size, 0, none⟩ = some (.int .i64 0) := (B1.cell 0).trans rfl
        have p_f0 := B1.frozen 0
        have p_c1 : V8.cell? ⟨w.heap.size, 1, none⟩ = some (.int .i64 0) := (B1.cell 1).trans rfl
        have p_f1 := B1.frozen 1
        have p_c2 : V8.cell? ⟨w.heap.size, 2, none⟩ = some (.slice none 0 0) := (B1.cell 2).trans rfl
        have p_f2 := B1.frozen 2
        have p_c3 : V8.cell? ⟨w.heap.size, 3, none⟩ = some (.slice none 0 0) := (B1.cell 3).trans rfl
        have p_f3 := B1.frozen 3
        have p_c4 : V8.cell? ⟨w.heap.size, 4, none⟩ = some (.int .i64 0) := (B1.cell 4).trans rfl
        have p_f4 := B1.frozen 4
        have p_c5 : V8.cell? ⟨w.heap.size, 5, none⟩ = some (.slice none 0 0) := (B1.cell 5).trans rfl
        have p_f5 := B1.frozen 5
        have q_z : w.heap.size + 1 < V8.heap.size := B2.lt
        have q_c0 : V8.cell? ⟨w.heap.size + 1, 0, none⟩ = some (.int .i64 0) := (B2.cell 0).trans rfl
        have q_f0 := B2.frozen 0
        have q_c1 : V8.cell? ⟨w.heap.size + 1, 1, none⟩ = some (.int .i64 0) := (B2.cell 1).trans rfl
        have q_f1 := B2.frozen 1
        go_region_held3 (fun w' => w'.cell? ⟨w.heap.size + 1 + 1, 0, none⟩ = some (.int .i64 0) ∧ w'.cell? ⟨w.heap.size + 1 + 1, 1, none⟩ = some (.int .i64 0) ∧ w'.cell? ⟨w.heap.size + 1 + 1, 2, none⟩ = some (.slice none 0 0) ∧ w'.cell? ⟨w.heap.size + 1 + 1, 3, none⟩ = some (.slice none 0 0) ∧ w'.cell? ⟨w.heap.size + 1 + 1, 4, none⟩ = some (.int .i64 0) ∧ w'.cell? ⟨w.heap.size + 1 + 1, 5, none⟩ = some (.slice none 0 0) ∧ w'.cell? ⟨g, 0, none⟩ = some (.slice (some ⟨bb, 0, none⟩) L.length d) ∧ w'.cell? ⟨g, 1, none⟩ = some (.int .i64 at6) ∧ w'.cell? ⟨g, 2, none⟩ = some (.int .i64 ee) ∧ w'.cell? ⟨bb, at6 * 5 + 3, none⟩ = some (.int .i64 t.line) ∧ w'.cell? ⟨bb, at6 * 5 + 4, none⟩ = some (.int .i64 t.col)) (first | with_reducible exact K1.out | with_reducible exact K2.out | with_reducible exact K3.out) (fail)
        go_wp2_with fail
        refine bodyPost_ret (v := .tuple #[.agg #[.int .i64 0, .int .i64 0, .slice none 0 0, .slice none 0 0, .int .i64 0, .slice none 0 0], .agg #[.int .i64 t.line, .int .i64 t.col], .int .i64 ee]) (by simp [results, Tryd.results8, go_sem, p_z, q_z, p_f0, p_f1, p_f2, p_f3, p_f4, p_f5, q_f0, q_f1, p_c0, p_c1, p_c2, p_c3, p_c4, p_c5, q_c0, q_c1]) rfl ⟨RB.out, .inl ⟨t.line, t.col, ee, HT.out.1, rfl⟩⟩
    | false =>
      obtain ⟨b1, h1⟩ : ∃ b, isP wAss L = b := ⟨_, rfl⟩
      cases b1 with
      | true =>
        have v0 := h0
        have v1 := h1
        have v2 := is_excl h1 (show wAss ≠ wTsp by decide)
        have v3 := is_excl h1 (show wAss ≠ wCov by decide)
        have hk3 : ¬ (headT L).kind = 3 := is_kind3 h1
        have HI := Lib.hid (fis_any F0 wKnap)
        rw [List.drop_zero, v0] at HI
        skip
        refine HI.out.mono ?_; rintro e Z0 ⟨rfl, hb⟩
        have G0 := F0.below hb
        have Q0 := R1.below hb
        clear HI hb F0 R1
        have HI := Lib.hid (fis_any G0 wAss)
        rw [List.drop_zero, v1] at HI
        go_wp2_with fail
        refine HI.out.mono ?_; rintro e Z1 ⟨rfl, hb⟩
        have G1 := G0.below hb
        have Q1 := Q0.below hb
        clear HI hb G0 Q0
        have HI := Lib.hid (fis_any G1 wTsp)
        rw [List.drop_zero, v2] at HI
        go_wp2_with fail
        refine HI.out.mono ?_; rintro e Z2 ⟨rfl, hb⟩
        have G2 := G1.below hb
        have Q2 := Q1.below hb
        clear HI hb G1 Q1
        have HI := Lib.hid (fis_any G2 wCov)
        rw [List.drop_zero, v3] at HI
        go_wp2_with fail
        refine HI.out.mono ?_; rintro e Z3 ⟨rfl, hb⟩
        have G3 := G2.below hb
        have Q3 := Q2.below hb
        clear HI hb G2 Q2
        have bA := bl_alloc (Below.refl _ Z3) (.cells #[.int .i64 0, .int .i64 0, .slice none 0 0, .slice none 0 0, .int .i64 0, .slice none 0 0] 36)
        have X5 : Blk (Z3.alloc (.cells #[.int .i64 0, .int .i64 0, .slice none 0 0, .slice none 0 0, .int .i64 0, .slice none 0 0] 36)) Z3.heap.size 36 #[.int .i64 0, .int .i64 0, .slice none 0 0, .slice none 0 0, .int .i64 0, .slice none 0 0] := Blk.new _ _ _
        have F4 := G3.below bA
        have R4 := Q3.below bA
        have hxx : g < Z3.heap.size := G3.gl
        have B5 := Q3.b5
        have hx2 : Z3.heap.size < (Z3.alloc (.cells #[.int .i64 0, .int .i64 0, .slice none 0 0, .slice none 0 0, .int .i64 0, .slice none 0 0] 36)).heap.size := X5.lt
        have n_z : w.heap.size + 1 + 1 < Z3.heap.size := B5.lt
        have n_c0 : Z3.cell? ⟨w.heap.size + 1 + 1, 0, none⟩ = some (.int .i64 0) := (B5.cell 0).trans rfl
        have n_f0 := B5.frozen 0
        have n_c1 : Z3.cell? ⟨w.heap.size + 1 + 1, 1, none⟩ = some (.int .i64 0) := (B5.cell 1).trans rfl
        have n_f1 := B5.frozen 1
        have n_c2 : Z3.cell? ⟨w.heap.size + 1 + 1, 2, none⟩ = some (.slice none 0 0) := (B5.cell 2).trans rfl
        have n_f2 := B5.frozen 2
        have n_c3 : Z3.cell? ⟨w.heap.size + 1 + 1, 3, none⟩ = some (.slice none 0 0) := (B5.cell 3).trans rfl
        have n_f3 := B5.frozen 3
        have n_c4 : Z3.cell? ⟨w.heap.size + 1 + 1, 4, none⟩ = some (.int .i64 0) := (B5.cell 4).trans rfl
        have n_f4 := B5.frozen 4
        have n_c5 : Z3.cell? ⟨w.heap.size + 1 + 1, 5, none⟩ = some (.slice none 0 0) := (B5.cell 5).trans rfl
        have n_f5 := B5.frozen 5
        have S4 := G3.box
        have s_z : g < Z3.heap.size := S4.lt
        have s_c0 : Z3.cell? ⟨g, 0, none⟩ = some (.slice (some ⟨bb, 0, none⟩) L.length d) := (S4.cell 0).trans rfl
        have s_f0 := S4.frozen 0
        have s_c1 : Z3.cell? ⟨g, 1, none⟩ = some (.int .i64 0) := (S4.cell 1).trans rfl
        have s_f1 := S4.frozen 1
        have s_c2 : Z3.cell? ⟨g, 2, none⟩ = some (.int .i64 0) := (S4.cell 2).trans rfl
        have s_f2 := S4.frozen 2
        have bA2 := bA
        have hE1 : EndsL (L.drop 1) := by have := hE.tail hk3; rwa [← List.drop_one] at this
        have F5 : Rf ((Z3.setCell ⟨g, 1, none⟩ (.int .i64 1)).alloc (.cells #[.int .i64 0, .int .i64 0, .slice none 0 0, .slice none 0 0, .int .i64 0, .slice none 0 0] 36)) g (some ⟨bb, 0, none⟩) d L 1 0 := (G3.back hE1).below (bl_alloc (Below.refl _ _) _)
        have hsz : (Z3.setCell ⟨g, 1, none⟩ (.int .i64 1)).heap.size = Z3.heap.size := by simp [World.setCell]
        have R5 := (Q3.far (p := ⟨g, 1, none⟩) hg1 (.int .i64 1)).below (bl_alloc (Below.refl _ _) (.cells #[.int .i64 0, .int .i64 0, .slice none 0 0, .slice none 0 0, .int .i64 0, .slice none 0 0] 36))
        have X6 : Blk ((Z3.setCell ⟨g, 1, none⟩ (.int .i64 1)).alloc (.cells #[.int .i64 0, .int .i64 0, .slice none 0 0, .slice none 0 0, .int .i64 0, .slice none 0 0] 36)) Z3.heap.size 36 #[.int .i64 0, .int .i64 0, .slice none 0 0, .slice none 0 0, .int .i64 0, .slice none 0 0] := by
          have := Blk.new (Z3.setCell ⟨g, 1, none⟩ (.int .i64 1)) 36 #[.int .i64 0, .int .i64 0, .slice none 0 0, .slice none 0 0, .int .i64 0, .slice none 0 0]
          rwa [hsz] at this
        clear F4 R4 X5 bA bA2 hsz G3 Q3 hx2
        go_wp2_with fail
        clear s_z s_c0 s_f0 s_c1 s_f1 s_c2 s_f2 S4 B5 n_z n_c0 n_f0 n_c1 n_f1 n_c2 n_f2 n_c3 n_f3 n_c4 n_f4 n_c5 n_f5
        generalize (Z3.setCell ⟨g, 1, none⟩ (.int .i64 1)).alloc (.cells #[.int .i64 0, .int .i64 0, .slice none 0 0, .slice none 0 0, .int .i64 0, .slice none 0 0] 36) = V5 at F5 R5 X6 ⊢
        have hx2 := X6.lt
        generalize Z3.heap.size = xx at X6 hxx hx2 ⊢
        refine (fsq_any F5 1).mono ?_; rintro e V6 ⟨I, at6, er6, D1, d1, D2, d2, D3, d3, rfl, hG, F6, hA, O6⟩
        have R6 := R5.gr hG hg1
        have X7 := X6.gr hG (by omega)
        have hx3 := hG.hs
        clear F5 R5 X6 hG
        have x_z : xx < V6.heap.size := X7.lt
        have x_c0 : V6.cell? ⟨xx, 0, none⟩ = some (.int .i64 0) := (X7.cell 0).trans rfl
        have x_f0 := X7.frozen 0
        have x_c1 : V6.cell? ⟨xx, 1, none⟩ = some (.int .i64 0) := (X7.cell 1).trans rfl
        have x_f1 := X7.frozen 1
        have x_c2 : V6.cell? ⟨xx, 2, none⟩ = some (.slice none 0 0) := (X7.cell 2).trans rfl
        have x_f2 := X7.frozen 2
        have x_c3 : V6.cell? ⟨xx, 3, none⟩ = some (.slice none 0 0) := (X7.cell 3).trans rfl
        have x_f3 := X7.frozen 3
        have x_c4 : V6.cell? ⟨xx, 4, none⟩ = some (.int .i64 0) := (X7.cell 4).trans rfl
        have x_f4 := X7.frozen 4
        have x_c5 : V6.cell? ⟨xx, 5, none⟩ = some (.slice none 0 0) := (X7.cell 5).trans rfl
        have x_f5 := X7.frozen 5
        have F8 : Rf (((((((V6).setCell ⟨xx, 0, none⟩ (.int .i64 I.kind)).setCell ⟨xx, 1, none⟩ (.int .i64 I.cap)).setCell ⟨xx, 2, none⟩ (.slice D1 I.items.length d1)).setCell ⟨xx, 3, none⟩ (.slice D2 I.cost.length d2)).setCell ⟨xx, 4, none⟩ (.int .i64 I.size)).setCell ⟨xx, 5, none⟩ (.slice D3 I.sets.length d3)) g (some ⟨bb, 0, none⟩) d L at6 er6 := (((((F6.far (p := ⟨xx, 0, none⟩) hxx _).far (p := ⟨xx, 1, none⟩) hxx _).far (p := ⟨xx, 2, none⟩) hxx _).far (p := ⟨xx, 3, none⟩) hxx _).far (p := ⟨xx, 4, none⟩) hxx _).far (p := ⟨xx, 5, none⟩) hxx _
        have R8 := R6.far6 (p := xx) (by omega) (a := .int .i64 I.kind) (b := .int .i64 I.cap) (c' := .slice D1 I.items.length d1) (d := .slice D2 I.cost.length d2) (e := .int .i64 I.size) (f := .slice D3 I.sets.length d3)
        have X8 := X7.put6 (a' := .int .i64 I.kind) (b' := .int .i64 I.cap) (c2 := .slice D1 I.items.length d1) (d' := .slice D2 I.cost.length d2) (e' := .int .i64 I.size) (f' := .slice D3 I.sets.length d3)
        have O8 := O6.res6 (r := xx) (by omega) (.int .i64 I.kind) (.int .i64 I.cap) (.slice D1 I.items.length d1) (.slice D2 I.cost.length d2) (.int .i64 I.size) (.slice D3 I.sets.length d3)
        clear F6 R6 O6
        go_wp2_with fail
        clear x_z x_c0 x_f0 x_c1 x_f1 x_c2 x_f2 x_c3 x_f3 x_c4 x_f4 x_c5 x_f5 X7
        generalize ((((((V6).setCell ⟨xx, 0, none⟩ (.int .i64 I.kind)).setCell ⟨xx, 1, none⟩ (.int .i64 I.cap)).setCell ⟨xx, 2, none⟩ (.slice D1 I.items.length d1)).setCell ⟨xx, 3, none⟩ (.slice D2 I.cost.length d2)).setCell ⟨xx, 4, none⟩ (.int .i64 I.size)).setCell ⟨xx, 5, none⟩ (.slice D3 I.sets.length d3) = V6 at F8 R8 X8 O8 ⊢
        have F6 := F8
        have R6 := R8
        have X6 := X8
        have O6 := Lib.hid (O8.more (base' := w.heap.size + 1 + 1 + 1) (by omega))
        replace O6 := O6.out
        clear F8 R8 X8 O8 hx2 hx3
        have htl1 : L.tail = L.drop 1 := (List.drop_one).symm
        have hW : ((squareP 1 (L.drop 1)).bind fun x l1 => if (headT l1).kind = 3 then PR.ok x l1 else failP l1 4).out = T := by
          have h := hT'
          rw [v0, v1] at h
          simp only [Bool.false_eq_true, if_false, if_true, htl1] at h
          exact h
        have SS : Hid (er6 = 0 → (headT (L.drop at6)).kind = 3 → T = .ok I) := Lib.hid (fun h1 h2 => by
          rcases hA with ⟨_, hA⟩ | ⟨hA, _⟩
          · rw [hA, PR.bind_ok, if_pos h2] at hW; exact hW.symm
          · exact absurd h1 hA)
        have SN : Hid (er6 = 0 → ¬ (headT (L.drop at6)).kind = 3 → T = .bad (headT (L.drop at6)).line (headT (L.drop at6)).col 4) := Lib.hid (fun h1 h2 => by
          rcases hA with ⟨_, hA⟩ | ⟨hA, _⟩
          · rw [hA, PR.bind_ok, if_neg h2] at hW; exact hW.symm
          · exact absurd h1 hA)
        have SB : Hid (¬ er6 = 0 → T = .bad (headT (L.drop at6)).line (headT (L.drop at6)).col er6) := Lib.hid (fun h1 => by
          rcases hA with ⟨hA, _⟩ | ⟨_, hA⟩
          · exact absurd hA h1
          · rw [hA, PR.bind_bad] at hW; exact hW.symm)
        clear hA hW hT' htl1 hk3 hE1 hE v0 v1 v2 v3 h0 h1
        obtain ⟨_, t, _, hh, htl⟩ := F6.ends.drop_head
        have HH := Lib.hid hh
        have i0 : (0 : Int) ≤ at6 := by omega
        have i1 : (at6 : Int) < L.length := by have := F6.lt; omega
        have ic := F6.cap
        obtain ⟨y0, y1, y2, y3, y4⟩ := tok5 F6 hh
        rw [Nat.zero_add] at y0 y1 y2 y3 y4
        have BS := F6.box
        clear hh htl
        have s_z : g < V6.heap.size := BS.lt
        have s_c0 : V6.cell? ⟨g, 0, none⟩ = some (.slice (some ⟨bb, 0, none⟩) L.length d) := (BS.cell 0).trans rfl
        have s_f0 := BS.frozen 0
        have s_c1 : V6.cell? ⟨g, 1, none⟩ = some (.int .i64 at6) := (BS.cell 1).trans rfl
        have s_f1 := BS.frozen 1
        have s_c2 : V6.cell? ⟨g, 2, none⟩ = some (.int .i64 er6) := (BS.cell 2).trans rfl
        have s_f2 := BS.frozen 2
        by_cases hk : t.kind = 3
        · have b3 : (t.kind != 3) = false := by simpa using hk
          by_cases e0 : er6 = 0
          · subst e0
            have HT := Lib.hid (SS.out rfl (by rw [HH.out]; exact hk))
            clear SS SB hk
            go_wp2_with fail
            go_quiet (fail)
            have bq := bl_drewN (Below.refl V6.heap.size V6) nq
            have F7 := F6.below bq
            have R7 := R6.below bq
            have X7 := X6.below bq
            have O7 := O6.below bq
            clear F6 R6 X6 O6 BS s_z s_c0 s_f0 s_c1 s_f1 s_c2 s_f2 y0 y1 y2 y3 y4 bq i0 i1 ic
            generalize V6.drewN nq = V7 at F7 R7 X7 O7 ⊢
            have BS := F7.box
            have s_z : g < V7.heap.size := BS.lt
            have s_c0 : V7.cell? ⟨g, 0, none⟩ = some (.slice (some ⟨bb, 0, none⟩) L.length d) := (BS.cell 0).trans rfl
            have s_f0 := BS.frozen 0
            have s_c1 : V7.cell? ⟨g, 1, none⟩ = some (.int .i64 at6) := (BS.cell 1).trans rfl
            have s_f1 := BS.frozen 1
            have s_c2 : V7.cell? ⟨g, 2, none⟩ = some (.int .i64 0) := (BS.cell 2).trans rfl
            have s_f2 := BS.frozen 2
            have B7 := R7.b1
            have B8 := R7.b2
            have p_z : w.heap.size < V7.heap.size := B7.lt
            have p_c0 : V7.cell? ⟨w.heap.size, 0, none⟩ = some (.int .i64 0) := (B7.cell 0).trans rfl
            have p_f0 := B7.frozen 0
            have p_c1 : V7.cell? ⟨w.heap.size, 1, none⟩ = some (.int .i64 0) := (B7.cell 1).trans rfl
            have p_f1 := B7.frozen 1
            have p_c2 : V7.cell? ⟨w.heap.size, 2, none⟩ = some (.slice none 0 0) := (B7.cell 2).trans rfl
            have p_f2 := B7.frozen 2
            have p_c3 : V7.cell? ⟨w.heap.size, 3, none⟩ = some (.slice none 0 0) := (B7.cell 3).trans rfl
            have p_f3 := B7.frozen 3
            have p_c4 : V7.cell? ⟨w.heap.size, 4, none⟩ = some (.int .i64 0) := (B7.cell 4).trans rfl
            have p_f4 := B7.frozen 4
            have p_c5 : V7.cell? ⟨w.heap.size, 5, none⟩ = some (.slice none 0 0) := (B7.cell 5).trans rfl
            have p_f5 := B7.frozen 5
            have q_z : w.heap.size + 1 < V7.heap.size := B8.lt
            have q_c0 : V7.cell? ⟨w.heap.size + 1, 0, none⟩ = some (.int .i64 0) := (B8.cell 0).trans rfl
            have q_f0 := B8.frozen 0
            have q_c1 : V7.cell? ⟨w.heap.size + 1, 1, none⟩ = some (.int .i64 0) := (B8.cell 1).trans rfl
            have q_f1 := B8.frozen 1
            have x_z : xx < V7.heap.size := X7.lt
            have x_c0 : V7.cell? ⟨xx, 0, none⟩ = some (.int .i64 I.kind) := (X7.cell 0).trans rfl
            have x_f0 := X7.frozen 0
            have x_c1 : V7.cell? ⟨xx, 1, none⟩ = some (.int .i64 I.cap) := (X7.cell 1).trans rfl
            have x_f1 := X7.frozen 1
            have x_c2 : V7.cell? ⟨xx, 2, none⟩ = some (.slice D1 I.items.length d1) := (X7.cell 2).trans rfl
            have x_f2 := X7.frozen 2
            have x_c3 : V7.cell? ⟨xx, 3, none⟩ = some (.slice D2 I.cost.length d2) := (X7.cell 3).trans rfl
            have x_f3 := X7.frozen 3
            have x_c4 : V7.cell? ⟨xx, 4, none⟩ = some (.int .i64 I.size) := (X7.cell 4).trans rfl
            have x_f4 := X7.frozen 4
            have x_c5 : V7.cell? ⟨xx, 5, none⟩ = some (.slice D3 I.sets.length d3) := (X7.cell 5).trans rfl
            have x_f5 := X7.frozen 5
            have e1 : ¬ xx = w.heap.size := by omega
            have e2 : ¬ xx = w.heap.size + 1 := by omega
            have e3 : ¬ w.heap.size = xx := by omega
            have e4 : ¬ w.heap.size + 1 = xx := by omega
            go_wp2_with fail
            refine bodyPost_ret (v := .tuple #[.agg #[.int .i64 I.kind, .int .i64 I.cap, .slice D1 I.items.length d1, .slice D2 I.cost.length d2, .int .i64 I.size, .slice D3 I.sets.length d3], .agg #[.int .i64 0, .int .i64 0], .int .i64 0]) (by simp [results, Tryd.results8, go_sem, p_c0, p_c1, p_c2, p_c3, p_c4, p_c5, q_c0, q_c1, p_f0, p_f1, p_f2, p_f3, p_f4, p_f5, q_f0, q_f1, p_z, q_z]) rfl ⟨(R7.put1.put2).bl, .inr ⟨I, D1, d1, D2, d2, D3, d3, HT.out, rfl, ?_⟩⟩
            have O8 := ((O7.more (base' := w.heap.size + 1 + 1) (by omega)).res6 (r := w.heap.size) (by omega) (.int .i64 I.kind) (.int .i64 I.cap) (.slice D1 I.items.length d1) (.slice D2 I.cost.length d2) (.int .i64 I.size) (.slice D3 I.sets.length d3)).set (p := ⟨w.heap.size + 1, 0, none⟩) (Nat.lt_succ_self _) (.int .i64 0) |>.set (p := ⟨w.heap.size + 1, 1, none⟩) (Nat.lt_succ_self _) (.int .i64 0)
            exact O8.more (by omega)
          · have b4 : (er6 != 0) = true := by simpa using e0
            have HT : Hid (T = .bad t.line t.col er6) := Lib.hid (by rw [← HH.out]; exact SB.out e0)
            clear SS SB hk e0
            go_wp2_with fail
            go_quiet (fail)
            have bq := bl_drewN (Below.refl V6.heap.size V6) nq
            have F7 := F6.below bq
            have R7 := R6.below bq
            have X7 := X6.below bq
            have O7 := O6.below bq
            clear F6 R6 X6 O6 BS s_z s_c0 s_f0 s_c1 s_f1 s_c2 s_f2 y0 y1 y2 y3 y4 bq i0 i1 ic
            generalize V6.drewN nq = V7 at F7 R7 X7 O7 ⊢
            have BS := F7.box
            have s_z : g < V7.heap.size := BS.lt
            have s_c0 : V7.cell? ⟨g, 0, none⟩ = some (.slice (some ⟨bb, 0, none⟩) L.length d) := (BS.cell 0).trans rfl
            have s_f0 := BS.frozen 0
            have s_c1 : V7.cell? ⟨g, 1, none⟩ = some (.int .i64 at6) := (BS.cell 1).trans rfl
            have s_f1 := BS.frozen 1
            have s_c2 : V7.cell? ⟨g, 2, none⟩ = some (.int .i64 er6) := (BS.cell 2).trans rfl
            have s_f2 := BS.frozen 2
            go_wp2_with fail
            clear BS s_z s_c0 s_f0 s_c1 s_f1 s_c2 s_f2 X7 O7
            have XC := CelR.of F7 HH.out
            have j0 : (0 : Int) ≤ at6 := by omega
            have j1 : (at6 : Int) < L.length := by have := F7.lt; omega
            have jc := F7.cap
            have B1 := R7.b1
            have B2 := R7.b2
            have bd := bl_drew (Below.refl _ V7)
            have K1 := Lib.hid (keepS (R7.below bd) XC.drew)
            have Ra := R7.put1 (a' := .int .i64 0) (b' := .int .i64 0) (c' := .slice none 0 0) (d' := .slice none 0 0) (e' := .int .i64 0) (f' := .slice none 0 0)
            have Xa := XC.far6 (p := w.heap.size) (a := .int .i64 0) (b := .int .i64 0) (c' := .slice none 0 0) (d := .slice none 0 0) (e := .int .i64 0) (f := .slice none 0 0) (by omega) (by omega)
            have K2 := Lib.hid (keepS (Ra.below (bl_drew (Below.refl _ _))) Xa.drew)
            have Rb := Ra.put2 (x' := .int .i64 t.line) (y' := .int .i64 t.col)
            have Xb := (Xa.far (p := ⟨w.heap.size + 1, 0, none⟩) (by show _ ≠ w.heap.size + 1; omega) (by show _ ≠ w.heap.size + 1; omega) (.int .i64 t.line)).far (p := ⟨w.heap.size + 1, 1, none⟩) (by show _ ≠ w.heap.size + 1; omega) (by show _ ≠ w.heap.size + 1; omega) (.int .i64 t.col)
            have K3 := Lib.hid (keepS (Rb.below (bl_drew (Below.refl _ _))) Xb.drew)
            have RB := Lib.hid (Rb.below (bl_drew (Below.refl _ _))).bl
            clear F7 R7 XC Ra Xa Rb Xb bd
            have p_z : w.heap.size < V7.heap.size := B1.lt
            have p_c0 : V7.cell? ⟨w.heap.size, 0, none⟩ = some (.int .i64 0) := (B1.cell 0).trans rfl
            have p_f0 := B1.frozen 0
            have p_c1 : V7.cell? ⟨w.heap.size, 1, none⟩ = some (.int .i64 0) := (B1.cell 1).trans rfl
            have p_f1 := B1.frozen 1
            have p_c2 : V7.cell? ⟨w.heap.size, 2, none⟩ = some (.slice none 0 0) := (B1.cell 2).trans rfl
            have p_f2 := B1.frozen 2
            have p_c3 : V7.cell? ⟨w.heap.size, 3, none⟩ = some (.slice none 0 0) := (B1.cell 3).trans rfl
            have p_f3 := B1.frozen 3
            have p_c4 : V7.cell? ⟨w.heap.size, 4, none⟩ = some (.int .i64 0) := (B1.cell 4).trans rfl
            have p_f4 := B1.frozen 4
            have p_c5 : V7.cell? ⟨w.heap.size, 5, none⟩ = some (.slice none 0 0) := (B1.cell 5).trans rfl
            have p_f5 := B1.frozen 5
            have q_z : w.heap.size + 1 < V7.heap.size := B2.lt
            have q_c0 : V7.cell? ⟨w.heap.size + 1, 0, none⟩ = some (.int .i64 0) := (B2.cell 0).trans rfl
            have q_f0 := B2.frozen 0
            have q_c1 : V7.cell? ⟨w.heap.size + 1, 1, none⟩ = some (.int .i64 0) := (B2.cell 1).trans rfl
            have q_f1 := B2.frozen 1
            go_region_held3 (fun w' => w'.cell? ⟨w.heap.size + 1 + 1, 0, none⟩ = some (.int .i64 0) ∧ w'.cell? ⟨w.heap.size + 1 + 1, 1, none⟩ = some (.int .i64 0) ∧ w'.cell? ⟨w.heap.size + 1 + 1, 2, none⟩ = some (.slice none 0 0) ∧ w'.cell? ⟨w.heap.size + 1 + 1, 3, none⟩ = some (.slice none 0 0) ∧ w'.cell? ⟨w.heap.size + 1 + 1, 4, none⟩ = some (.int .i64 0) ∧ w'.cell? ⟨w.heap.size + 1 + 1, 5, none⟩ = some (.slice none 0 0) ∧ w'.cell? ⟨g, 0, none⟩ = some (.slice (some ⟨bb, 0, none⟩) L.length d) ∧ w'.cell? ⟨g, 1, none⟩ = some (.int .i64 at6) ∧ w'.cell? ⟨g, 2, none⟩ = some (.int .i64 er6) ∧ w'.cell? ⟨bb, at6 * 5 + 3, none⟩ = some (.int .i64 t.line) ∧ w'.cell? ⟨bb, at6 * 5 + 4, none⟩ = some (.int .i64 t.col)) (first | with_reducible exact K1.out | with_reducible exact K2.out | with_reducible exact K3.out) (fail)
            go_wp2_with fail
            refine bodyPost_ret (v := .tuple #[.agg #[.int .i64 0, .int .i64 0, .slice none 0 0, .slice none 0 0, .int .i64 0, .slice none 0 0], .agg #[.int .i64 t.line, .int .i64 t.col], .int .i64 er6]) (by simp [results, Tryd.results8, go_sem, p_z, q_z, p_f0, p_f1, p_f2, p_f3, p_f4, p_f5, q_f0, q_f1, p_c0, p_c1, p_c2, p_c3, p_c4, p_c5, q_c0, q_c1]) rfl ⟨RB.out, .inl ⟨t.line, t.col, er6, HT.out, rfl⟩⟩
        · have b3 : (t.kind != 3) = true := by simpa using hk
          obtain ⟨ee, hee⟩ : ∃ ee : Int, (if er6 = 0 then (4 : Int) else er6) = ee := ⟨_, rfl⟩
          have HT : Hid (T = .bad t.line t.col ee ∧ ¬ ee = 0) := by
            by_cases e0 : er6 = 0
            · rw [if_pos e0] at hee
              subst hee
              exact Lib.hid ⟨by rw [← HH.out]; exact SN.out e0 (by rw [HH.out]; exact hk), by decide⟩
            · rw [if_neg e0] at hee
              subst hee
              exact Lib.hid ⟨by rw [← HH.out]; exact SB.out e0, e0⟩
          have HEE := Lib.hid hee
          clear SS SB SN hk hee
          go_wp2_with fail
          go_quiet (fail)
          have bq := bl_drewN (Below.refl V6.heap.size V6) nq
          have F7 := F6.below bq
          have R7 := R6.below bq
          have X7 := X6.below bq
          have O7 := O6.below bq
          clear F6 R6 X6 O6 BS s_z s_c0 s_f0 s_c1 s_f1 s_c2 s_f2 y0 y1 y2 y3 y4 bq i0 i1 ic
          generalize V6.drewN nq = V7 at F7 R7 X7 O7 ⊢
          go_wp2_with fail
          refine (ffail_any F7 4).mono ?_; rintro e V8 ⟨rfl, hG8, F8⟩
          rw [HEE.out] at F8
          have R8 := R7.gr hG8 (by omega)
          clear F7 R7 X7 O7 hG8
          have BS := F8.box
          have s_z : g < V8.heap.size := BS.lt
          have s_c0 : V8.cell? ⟨g, 0, none⟩ = some (.slice (some ⟨bb, 0, none⟩) L.length d) := (BS.cell 0).trans rfl
          have s_f0 := BS.frozen 0
          have s_c1 : V8.cell? ⟨g, 1, none⟩ = some (.int .i64 at6) := (BS.cell 1).trans rfl
          have s_f1 := BS.frozen 1
          have s_c2 : V8.cell? ⟨g, 2, none⟩ = some (.int .i64 ee) := (BS.cell 2).trans rfl
          have s_f2 := BS.frozen 2
          have b4 : (ee != 0) = true := by simpa using HT.out.2
          go_wp2_with fail
          clear BS s_z s_c0 s_f0 s_c1 s_f1 s_c2 s_f2
          have XC := CelR.of F8 HH.out
          have j0 : (0 : Int) ≤ at6 := by omega
          have j1 : (at6 : Int) < L.length := by have := F8.lt; omega
          have jc := F8.cap
          have B1 := R8.b1
          have B2 := R8.b2
          have bd := bl_drew (Below.refl _ V8)
          have K1 := Lib.hid (keepS (R8.below bd) XC.drew)
          have Ra := R8.put1 (a' := .int .i64 0) (b' := .int .i64 0) (c' := .slice none 0 0) (d' := .slice none 0 0) (e' := .int .i64 0) (f' := .slice none 0 0)
          have Xa := XC.far6 (p := w.heap.size) (a := .int .i64 0) (b := .int .i64 0) (c' := .slice none 0 0) (d := .slice none 0 0) (e := .int .i64 0) (f := .slice none 0 0) (by omega) (by omega)
          have K2 := Lib.hid (keepS (Ra.below (bl_drew (Below.refl _ _))) Xa.drew)
          have Rb := Ra.put2 (x' := .int .i64 t.line) (y' := .int .i64 t.col)
          have Xb := (Xa.far (p := ⟨w.heap.size + 1, 0, none⟩) (by show _ ≠ w.heap.size + 1; omega) (by show _ ≠ w.heap.size + 1; omega) (.int .i64 t.line)).far (p := ⟨w.heap.size + 1, 1, none⟩) (by show _ ≠ w.heap.size + 1; omega) (by show _ ≠ w.heap.size + 1; omega) (.int .i64 t.col)
          have K3 := Lib.hid (keepS (Rb.below (bl_drew (Below.refl _ _))) Xb.drew)
          have RB := Lib.hid (Rb.below (bl_drew (Below.refl _ _))).bl
          clear F8 R8 XC Ra Xa Rb Xb bd
          have p_z : w.heap.size < V8.heap.size := B1.lt
          have p_c0 : V8.cell? ⟨w.heap.size, 0, none⟩ = some (.int .i64 0) := (B1.cell 0).trans rfl
          have p_f0 := B1.frozen 0
          have p_c1 : V8.cell? ⟨w.heap.size, 1, none⟩ = some (.int .i64 0) := (B1.cell 1).trans rfl
          have p_f1 := B1.frozen 1
          have p_c2 : V8.cell? ⟨w.heap.size, 2, none⟩ = some (.slice none 0 0) := (B1.cell 2).trans rfl
          have p_f2 := B1.frozen 2
          have p_c3 : V8.cell? ⟨w.heap.size, 3, none⟩ = some (.slice none 0 0) := (B1.cell 3).trans rfl
          have p_f3 := B1.frozen 3
          have p_c4 : V8.cell? ⟨w.heap.size, 4, none⟩ = some (.int .i64 0) := (B1.cell 4).trans rfl
          have p_f4 := B1.frozen 4
          have p_c5 : V8.cell? ⟨w.heap.size, 5, none⟩ = some (.slice none 0 0) := (B1.cell 5).trans rfl
          have p_f5 := B1.frozen 5
          have q_z : w.heap.size + 1 < V8.heap.size := B2.lt
          have q_c0 : V8.cell? ⟨w.heap.size + 1, 0, none⟩ = some (.int .i64 0) := (B2.cell 0).trans rfl
          have q_f0 := B2.frozen 0
          have q_c1 : V8.cell? ⟨w.heap.size + 1, 1, none⟩ = some (.int .i64 0) := (B2.cell 1).trans rfl
          have q_f1 := B2.frozen 1
          go_region_held3 (fun w' => w'.cell? ⟨w.heap.size + 1 + 1, 0, none⟩ = some (.int .i64 0) ∧ w'.cell? ⟨w.heap.size + 1 + 1, 1, none⟩ = some (.int .i64 0) ∧ w'.cell? ⟨w.heap.size + 1 + 1, 2, none⟩ = some (.slice none 0 0) ∧ w'.cell? ⟨w.heap.size + 1 + 1, 3, none⟩ = some (.slice none 0 0) ∧ w'.cell? ⟨w.heap.size + 1 + 1, 4, none⟩ = some (.int .i64 0) ∧ w'.cell? ⟨w.heap.size + 1 + 1, 5, none⟩ = some (.slice none 0 0) ∧ w'.cell? ⟨g, 0, none⟩ = some (.slice (some ⟨bb, 0, none⟩) L.length d) ∧ w'.cell? ⟨g, 1, none⟩ = some (.int .i64 at6) ∧ w'.cell? ⟨g, 2, none⟩ = some (.int .i64 ee) ∧ w'.cell? ⟨bb, at6 * 5 + 3, none⟩ = some (.int .i64 t.line) ∧ w'.cell? ⟨bb, at6 * 5 + 4, none⟩ = some (.int .i64 t.col)) (first | with_reducible exact K1.out | with_reducible exact K2.out | with_reducible exact K3.out) (fail)
          go_wp2_with fail
          refine bodyPost_ret (v := .tuple #[.agg #[.int .i64 0, .int .i64 0, .slice none 0 0, .slice none 0 0, .int .i64 0, .slice none 0 0], .agg #[.int .i64 t.line, .int .i64 t.col], .int .i64 ee]) (by simp [results, Tryd.results8, go_sem, p_z, q_z, p_f0, p_f1, p_f2, p_f3, p_f4, p_f5, q_f0, q_f1, p_c0, p_c1, p_c2, p_c3, p_c4, p_c5, q_c0, q_c1]) rfl ⟨RB.out, .inl ⟨t.line, t.col, ee, HT.out.1, rfl⟩⟩
      | false =>
        obtain ⟨b2, h2⟩ : ∃ b, isP wTsp L = b := ⟨_, rfl⟩
        cases b2 with
        | true =>
          have v0 := h0
          have v1 := h1
          have v2 := h2
          have v3 := is_excl h2 (show wTsp ≠ wCov by decide)
          have hk3 : ¬ (headT L).kind = 3 := is_kind3 h2
          have HI := Lib.hid (fis_any F0 wKnap)
          rw [List.drop_zero, v0] at HI
          skip
          refine HI.out.mono ?_; rintro e Z0 ⟨rfl, hb⟩
          have G0 := F0.below hb
          have Q0 := R1.below hb
          clear HI hb F0 R1
          have HI := Lib.hid (fis_any G0 wAss)
          rw [List.drop_zero, v1] at HI
          go_wp2_with fail
          refine HI.out.mono ?_; rintro e Z1 ⟨rfl, hb⟩
          have G1 := G0.below hb
          have Q1 := Q0.below hb
          clear HI hb G0 Q0
          have HI := Lib.hid (fis_any G1 wTsp)
          rw [List.drop_zero, v2] at HI
          go_wp2_with fail
          refine HI.out.mono ?_; rintro e Z2 ⟨rfl, hb⟩
          have G2 := G1.below hb
          have Q2 := Q1.below hb
          clear HI hb G1 Q1
          have HI := Lib.hid (fis_any G2 wCov)
          rw [List.drop_zero, v3] at HI
          go_wp2_with fail
          refine HI.out.mono ?_; rintro e Z3 ⟨rfl, hb⟩
          have G3 := G2.below hb
          have Q3 := Q2.below hb
          clear HI hb G2 Q2
          have bA := bl_alloc (Below.refl _ Z3) (.cells #[.int .i64 0, .int .i64 0, .slice none 0 0, .slice none 0 0, .int .i64 0, .slice none 0 0] 36)
          have X5 : Blk (Z3.alloc (.cells #[.int .i64 0, .int .i64 0, .slice none 0 0, .slice none 0 0, .int .i64 0, .slice none 0 0] 36)) Z3.heap.size 36 #[.int .i64 0, .int .i64 0, .slice none 0 0, .slice none 0 0, .int .i64 0, .slice none 0 0] := Blk.new _ _ _
          have F4 := G3.below bA
          have R4 := Q3.below bA
          have hxx : g < Z3.heap.size := G3.gl
          have B5 := Q3.b5
          have hx2 : Z3.heap.size < (Z3.alloc (.cells #[.int .i64 0, .int .i64 0, .slice none 0 0, .slice none 0 0, .int .i64 0, .slice none 0 0] 36)).heap.size := X5.lt
          have n_z : w.heap.size + 1 + 1 < Z3.heap.size := B5.lt
          have n_c0 : Z3.cell? ⟨w.heap.size + 1 + 1, 0, none⟩ = some (.int .i64 0) := (B5.cell 0).trans rfl
          have n_f0 := B5.frozen 0
          have n_c1 : Z3.cell? ⟨w.heap.size + 1 + 1, 1, none⟩ = some (.int .i64 0) := (B5.cell 1).trans rfl
          have n_f1 := B5.frozen 1
          have n_c2 : Z3.cell? ⟨w.heap.size + 1 + 1, 2, none⟩ = some (.slice none 0 0) := (B5.cell 2).trans rfl
          have n_f2 := B5.frozen 2
          have n_c3 : Z3.cell? ⟨w.heap.size + 1 + 1, 3, none⟩ = some (.slice none 0 0) := (B5.cell 3).trans rfl
          have n_f3 := B5.frozen 3
          have n_c4 : Z3.cell? ⟨w.heap.size + 1 + 1, 4, none⟩ = some (.int .i64 0) := (B5.cell 4).trans rfl
          have n_f4 := B5.frozen 4
          have n_c5 : Z3.cell? ⟨w.heap.size + 1 + 1, 5, none⟩ = some (.slice none 0 0) := (B5.cell 5).trans rfl
          have n_f5 := B5.frozen 5
          have S4 := G3.box
          have s_z : g < Z3.heap.size := S4.lt
          have s_c0 : Z3.cell? ⟨g, 0, none⟩ = some (.slice (some ⟨bb, 0, none⟩) L.length d) := (S4.cell 0).trans rfl
          have s_f0 := S4.frozen 0
          have s_c1 : Z3.cell? ⟨g, 1, none⟩ = some (.int .i64 0) := (S4.cell 1).trans rfl
          have s_f1 := S4.frozen 1
          have s_c2 : Z3.cell? ⟨g, 2, none⟩ = some (.int .i64 0) := (S4.cell 2).trans rfl
          have s_f2 := S4.frozen 2
          have bA2 := bA
          have hE1 : EndsL (L.drop 1) := by have := hE.tail hk3; rwa [← List.drop_one] at this
          have F5 : Rf ((Z3.setCell ⟨g, 1, none⟩ (.int .i64 1)).alloc (.cells #[.int .i64 0, .int .i64 0, .slice none 0 0, .slice none 0 0, .int .i64 0, .slice none 0 0] 36)) g (some ⟨bb, 0, none⟩) d L 1 0 := (G3.back hE1).below (bl_alloc (Below.refl _ _) _)
          have hsz : (Z3.setCell ⟨g, 1, none⟩ (.int .i64 1)).heap.size = Z3.heap.size := by simp [World.setCell]
          have R5 := (Q3.far (p := ⟨g, 1, none⟩) hg1 (.int .i64 1)).below (bl_alloc (Below.refl _ _) (.cells #[.int .i64 0, .int .i64 0, .slice none 0 0, .slice none 0 0, .int .i64 0, .slice none 0 0] 36))
          have X6 : Blk ((Z3.setCell ⟨g, 1, none⟩ (.int .i64 1)).alloc (.cells #[.int .i64 0, .int .i64 0, .slice none 0 0, .slice none 0 0, .int .i64 0, .slice none 0 0] 36)) Z3.heap.size 36 #[.int .i64 0, .int .i64 0, .slice none 0 0, .slice none 0 0, .int .i64 0, .slice none 0 0] := by
            have := Blk.new (Z3.setCell ⟨g, 1, none⟩ (.int .i64 1)) 36 #[.int .i64 0, .int .i64 0, .slice none 0 0, .slice none 0 0, .int .i64 0, .slice none 0 0]
            rwa [hsz] at this
          clear F4 R4 X5 bA bA2 hsz G3 Q3 hx2
          go_wp2_with fail
          clear s_z s_c0 s_f0 s_c1 s_f1 s_c2 s_f2 S4 B5 n_z n_c0 n_f0 n_c1 n_f1 n_c2 n_f2 n_c3 n_f3 n_c4 n_f4 n_c5 n_f5
          generalize (Z3.setCell ⟨g, 1, none⟩ (.int .i64 1)).alloc (.cells #[.int .i64 0, .int .i64 0, .slice none 0 0, .slice none 0 0, .int .i64 0, .slice none 0 0] 36) = V5 at F5 R5 X6 ⊢
          have hx2 := X6.lt
          generalize Z3.heap.size = xx at X6 hxx hx2 ⊢
          refine (fsq_any F5 2).mono ?_; rintro e V6 ⟨I, at6, er6, D1, d1, D2, d2, D3, d3, rfl, hG, F6, hA, O6⟩
          have R6 := R5.gr hG hg1
          have X7 := X6.gr hG (by omega)
          have hx3 := hG.hs
          clear F5 R5 X6 hG
          have x_z : xx < V6.heap.size := X7.lt
          have x_c0 : V6.cell? ⟨xx, 0, none⟩ = some (.int .i64 0) := (X7.cell 0).trans rfl
          have x_f0 := X7.frozen 0
          have x_c1 : V6.cell? ⟨xx, 1, none⟩ = some (.int .i64 0) := (X7.cell 1).trans rfl
          have x_f1 := X7.frozen 1
          have x_c2 : V6.cell? ⟨xx, 2, none⟩ = some (.slice none 0 0) := (X7.cell 2).trans rfl
          have x_f2 := X7.frozen 2
          have x_c3 : V6.cell? ⟨xx, 3, none⟩ = some (.slice none 0 0) := (X7.cell 3).trans rfl
          have x_f3 := X7.frozen 3
          have x_c4 : V6.cell? ⟨xx, 4, none⟩ = some (.int .i64 0) := (X7.cell 4).trans rfl
          have x_f4 := X7.frozen 4
          have x_c5 : V6.cell? ⟨xx, 5, none⟩ = some (.slice none 0 0) := (X7.cell 5).trans rfl
          have x_f5 := X7.frozen 5
          have F8 : Rf (((((((V6).setCell ⟨xx, 0, none⟩ (.int .i64 I.kind)).setCell ⟨xx, 1, none⟩ (.int .i64 I.cap)).setCell ⟨xx, 2, none⟩ (.slice D1 I.items.length d1)).setCell ⟨xx, 3, none⟩ (.slice D2 I.cost.length d2)).setCell ⟨xx, 4, none⟩ (.int .i64 I.size)).setCell ⟨xx, 5, none⟩ (.slice D3 I.sets.length d3)) g (some ⟨bb, 0, none⟩) d L at6 er6 := (((((F6.far (p := ⟨xx, 0, none⟩) hxx _).far (p := ⟨xx, 1, none⟩) hxx _).far (p := ⟨xx, 2, none⟩) hxx _).far (p := ⟨xx, 3, none⟩) hxx _).far (p := ⟨xx, 4, none⟩) hxx _).far (p := ⟨xx, 5, none⟩) hxx _
          have R8 := R6.far6 (p := xx) (by omega) (a := .int .i64 I.kind) (b := .int .i64 I.cap) (c' := .slice D1 I.items.length d1) (d := .slice D2 I.cost.length d2) (e := .int .i64 I.size) (f := .slice D3 I.sets.length d3)
          have X8 := X7.put6 (a' := .int .i64 I.kind) (b' := .int .i64 I.cap) (c2 := .slice D1 I.items.length d1) (d' := .slice D2 I.cost.length d2) (e' := .int .i64 I.size) (f' := .slice D3 I.sets.length d3)
          have O8 := O6.res6 (r := xx) (by omega) (.int .i64 I.kind) (.int .i64 I.cap) (.slice D1 I.items.length d1) (.slice D2 I.cost.length d2) (.int .i64 I.size) (.slice D3 I.sets.length d3)
          clear F6 R6 O6
          go_wp2_with fail
          clear x_z x_c0 x_f0 x_c1 x_f1 x_c2 x_f2 x_c3 x_f3 x_c4 x_f4 x_c5 x_f5 X7
          generalize ((((((V6).setCell ⟨xx, 0, none⟩ (.int .i64 I.kind)).setCell ⟨xx, 1, none⟩ (.int .i64 I.cap)).setCell ⟨xx, 2, none⟩ (.slice D1 I.items.length d1)).setCell ⟨xx, 3, none⟩ (.slice D2 I.cost.length d2)).setCell ⟨xx, 4, none⟩ (.int .i64 I.size)).setCell ⟨xx, 5, none⟩ (.slice D3 I.sets.length d3) = V6 at F8 R8 X8 O8 ⊢
          have F6 := F8
          have R6 := R8
          have X6 := X8
          have O6 := Lib.hid (O8.more (base' := w.heap.size + 1 + 1 + 1) (by omega))
          replace O6 := O6.out
          clear F8 R8 X8 O8 hx2 hx3
          have htl1 : L.tail = L.drop 1 := (List.drop_one).symm
          have hW : ((squareP 2 (L.drop 1)).bind fun x l1 => if (headT l1).kind = 3 then PR.ok x l1 else failP l1 4).out = T := by
            have h := hT'
            rw [v0, v1, v2] at h
            simp only [Bool.false_eq_true, if_false, if_true, htl1] at h
            exact h
          have SS : Hid (er6 = 0 → (headT (L.drop at6)).kind = 3 → T = .ok I) := Lib.hid (fun h1 h2 => by
            rcases hA with ⟨_, hA⟩ | ⟨hA, _⟩
            · rw [hA, PR.bind_ok, if_pos h2] at hW; exact hW.symm
            · exact absurd h1 hA)
          have SN : Hid (er6 = 0 → ¬ (headT (L.drop at6)).kind = 3 → T = .bad (headT (L.drop at6)).line (headT (L.drop at6)).col 4) := Lib.hid (fun h1 h2 => by
            rcases hA with ⟨_, hA⟩ | ⟨hA, _⟩
            · rw [hA, PR.bind_ok, if_neg h2] at hW; exact hW.symm
            · exact absurd h1 hA)
          have SB : Hid (¬ er6 = 0 → T = .bad (headT (L.drop at6)).line (headT (L.drop at6)).col er6) := Lib.hid (fun h1 => by
            rcases hA with ⟨hA, _⟩ | ⟨_, hA⟩
            · exact absurd hA h1
            · rw [hA, PR.bind_bad] at hW; exact hW.symm)
          clear hA hW hT' htl1 hk3 hE1 hE v0 v1 v2 v3 h0 h1 h2
          obtain ⟨_, t, _, hh, htl⟩ := F6.ends.drop_head
          have HH := Lib.hid hh
          have i0 : (0 : Int) ≤ at6 := by omega
          have i1 : (at6 : Int) < L.length := by have := F6.lt; omega
          have ic := F6.cap
          obtain ⟨y0, y1, y2, y3, y4⟩ := tok5 F6 hh
          rw [Nat.zero_add] at y0 y1 y2 y3 y4
          have BS := F6.box
          clear hh htl
          have s_z : g < V6.heap.size := BS.lt
          have s_c0 : V6.cell? ⟨g, 0, none⟩ = some (.slice (some ⟨bb, 0, none⟩) L.length d) := (BS.cell 0).trans rfl
          have s_f0 := BS.frozen 0
          have s_c1 : V6.cell? ⟨g, 1, none⟩ = some (.int .i64 at6) := (BS.cell 1).trans rfl
          have s_f1 := BS.frozen 1
          have s_c2 : V6.cell? ⟨g, 2, none⟩ = some (.int .i64 er6) := (BS.cell 2).trans rfl
          have s_f2 := BS.frozen 2
          by_cases hk : t.kind = 3
          · have b3 : (t.kind != 3) = false := by simpa using hk
            by_cases e0 : er6 = 0
            · subst e0
              have HT := Lib.hid (SS.out rfl (by rw [HH.out]; exact hk))
              clear SS SB hk
              go_wp2_with fail
              go_quiet (fail)
              have bq := bl_drewN (Below.refl V6.heap.size V6) nq
              have F7 := F6.below bq
              have R7 := R6.below bq
              have X7 := X6.below bq
              have O7 := O6.below bq
              clear F6 R6 X6 O6 BS s_z s_c0 s_f0 s_c1 s_f1 s_c2 s_f2 y0 y1 y2 y3 y4 bq i0 i1 ic
              generalize V6.drewN nq = V7 at F7 R7 X7 O7 ⊢
              have BS := F7.box
              have s_z : g < V7.heap.size := BS.lt
              have s_c0 : V7.cell? ⟨g, 0, none⟩ = some (.slice (some ⟨bb, 0, none⟩) L.length d) := (BS.cell 0).trans rfl
              have s_f0 := BS.frozen 0
              have s_c1 : V7.cell? ⟨g, 1, none⟩ = some (.int .i64 at6) := (BS.cell 1).trans rfl
              have s_f1 := BS.frozen 1
              have s_c2 : V7.cell? ⟨g, 2, none⟩ = some (.int .i64 0) := (BS.cell 2).trans rfl
              have s_f2 := BS.frozen 2
              have B7 := R7.b1
              have B8 := R7.b2
              have p_z : w.heap.size < V7.heap.size := B7.lt
              have p_c0 : V7.cell? ⟨w.heap.size, 0, none⟩ = some (.int .i64 0) := (B7.cell 0).trans rfl
              have p_f0 := B7.frozen 0
              have p_c1 : V7.cell? ⟨w.heap.size, 1, none⟩ = some (.int .i64 0) := (B7.cell 1).trans rfl
              have p_f1 := B7.frozen 1
              have p_c2 : V7.cell? ⟨w.heap.size, 2, none⟩ = some (.slice none 0 0) := (B7.cell 2).trans rfl
              have p_f2 := B7.frozen 2
              have p_c3 : V7.cell? ⟨w.heap.size, 3, none⟩ = some (.slice none 0 0) := (B7.cell 3).trans rfl
              have p_f3 := B7.frozen 3
              have p_c4 : V7.cell? ⟨w.heap.size, 4, none⟩ = some (.int .i64 0) := (B7.cell 4).trans rfl
              have p_f4 := B7.frozen 4
              have p_c5 : V7.cell? ⟨w.heap.size, 5, none⟩ = some (.slice none 0 0) := (B7.cell 5).trans rfl
              have p_f5 := B7.frozen 5
              have q_z : w.heap.size + 1 < V7.heap.size := B8.lt
              have q_c0 : V7.cell? ⟨w.heap.size + 1, 0, none⟩ = some (.int .i64 0) := (B8.cell 0).trans rfl
              have q_f0 := B8.frozen 0
              have q_c1 : V7.cell? ⟨w.heap.size + 1, 1, none⟩ = some (.int .i64 0) := (B8.cell 1).trans rfl
              have q_f1 := B8.frozen 1
              have x_z : xx < V7.heap.size := X7.lt
              have x_c0 : V7.cell? ⟨xx, 0, none⟩ = some (.int .i64 I.kind) := (X7.cell 0).trans rfl
              have x_f0 := X7.frozen 0
              have x_c1 : V7.cell? ⟨xx, 1, none⟩ = some (.int .i64 I.cap) := (X7.cell 1).trans rfl
              have x_f1 := X7.frozen 1
              have x_c2 : V7.cell? ⟨xx, 2, none⟩ = some (.slice D1 I.items.length d1) := (X7.cell 2).trans rfl
              have x_f2 := X7.frozen 2
              have x_c3 : V7.cell? ⟨xx, 3, none⟩ = some (.slice D2 I.cost.length d2) := (X7.cell 3).trans rfl
              have x_f3 := X7.frozen 3
              have x_c4 : V7.cell? ⟨xx, 4, none⟩ = some (.int .i64 I.size) := (X7.cell 4).trans rfl
              have x_f4 := X7.frozen 4
              have x_c5 : V7.cell? ⟨xx, 5, none⟩ = some (.slice D3 I.sets.length d3) := (X7.cell 5).trans rfl
              have x_f5 := X7.frozen 5
              have e1 : ¬ xx = w.heap.size := by omega
              have e2 : ¬ xx = w.heap.size + 1 := by omega
              have e3 : ¬ w.heap.size = xx := by omega
              have e4 : ¬ w.heap.size + 1 = xx := by omega
              go_wp2_with fail
              refine bodyPost_ret (v := .tuple #[.agg #[.int .i64 I.kind, .int .i64 I.cap, .slice D1 I.items.length d1, .slice D2 I.cost.length d2, .int .i64 I.size, .slice D3 I.sets.length d3], .agg #[.int .i64 0, .int .i64 0], .int .i64 0]) (by simp [results, Tryd.results8, go_sem, p_c0, p_c1, p_c2, p_c3, p_c4, p_c5, q_c0, q_c1, p_f0, p_f1, p_f2, p_f3, p_f4, p_f5, q_f0, q_f1, p_z, q_z]) rfl ⟨(R7.put1.put2).bl, .inr ⟨I, D1, d1, D2, d2, D3, d3, HT.out, rfl, ?_⟩⟩
              have O8 := ((O7.more (base' := w.heap.size + 1 + 1) (by omega)).res6 (r := w.heap.size) (by omega) (.int .i64 I.kind) (.int .i64 I.cap) (.slice D1 I.items.length d1) (.slice D2 I.cost.length d2) (.int .i64 I.size) (.slice D3 I.sets.length d3)).set (p := ⟨w.heap.size + 1, 0, none⟩) (Nat.lt_succ_self _) (.int .i64 0) |>.set (p := ⟨w.heap.size + 1, 1, none⟩) (Nat.lt_succ_self _) (.int .i64 0)
              exact O8.more (by omega)
            · have b4 : (er6 != 0) = true := by simpa using e0
              have HT : Hid (T = .bad t.line t.col er6) := Lib.hid (by rw [← HH.out]; exact SB.out e0)
              clear SS SB hk e0
              go_wp2_with fail
              go_quiet (fail)
              have bq := bl_drewN (Below.refl V6.heap.size V6) nq
              have F7 := F6.below bq
              have R7 := R6.below bq
              have X7 := X6.below bq
              have O7 := O6.below bq
              clear F6 R6 X6 O6 BS s_z s_c0 s_f0 s_c1 s_f1 s_c2 s_f2 y0 y1 y2 y3 y4 bq i0 i1 ic
              generalize V6.drewN nq = V7 at F7 R7 X7 O7 ⊢
              have BS := F7.box
              have s_z : g < V7.heap.size := BS.lt
              have s_c0 : V7.cell? ⟨g, 0, none⟩ = some (.slice (some ⟨bb, 0, none⟩) L.length d) := (BS.cell 0).trans rfl
              have s_f0 := BS.frozen 0
              have s_c1 : V7.cell? ⟨g, 1, none⟩ = some (.int .i64 at6) := (BS.cell 1).trans rfl
              have s_f1 := BS.frozen 1
              have s_c2 : V7.cell? ⟨g, 2, none⟩ = some (.int .i64 er6) := (BS.cell 2).trans rfl
              have s_f2 := BS.frozen 2
              go_wp2_with fail
              clear BS s_z s_c0 s_f0 s_c1 s_f1 s_c2 s_f2 X7 O7
              have XC := CelR.of F7 HH.out
              have j0 : (0 : Int) ≤ at6 := by omega
              have j1 : (at6 : Int) < L.length := by have := F7.lt; omega
              have jc := F7.cap
              have B1 := R7.b1
              have B2 := R7.b2
              have bd := bl_drew (Below.refl _ V7)
              have K1 := Lib.hid (keepS (R7.below bd) XC.drew)
              have Ra := R7.put1 (a' := .int .i64 0) (b' := .int .i64 0) (c' := .slice none 0 0) (d' := .slice none 0 0) (e' := .int .i64 0) (f' := .slice none 0 0)
              have Xa := XC.far6 (p := w.heap.size) (a := .int .i64 0) (b := .int .i64 0) (c' := .slice none 0 0) (d := .slice none 0 0) (e := .int .i64 0) (f := .slice none 0 0) (by omega) (by omega)
              have K2 := Lib.hid (keepS (Ra.below (bl_drew (Below.refl _ _))) Xa.drew)
              have Rb := Ra.put2 (x' := .int .i64 t.line) (y' := .int .i64 t.col)
              have Xb := (Xa.far (p := ⟨w.heap.size + 1, 0, none⟩) (by show _ ≠ w.heap.size + 1; omega) (by show _ ≠ w.heap.size + 1; omega) (.int .i64 t.line)).far (p := ⟨w.heap.size + 1, 1, none⟩) (by show _ ≠ w.heap.size + 1; omega) (by show _ ≠ w.heap.size + 1; omega) (.int .i64 t.col)
              have K3 := Lib.hid (keepS (Rb.below (bl_drew (Below.refl _ _))) Xb.drew)
              have RB := Lib.hid (Rb.below (bl_drew (Below.refl _ _))).bl
              clear F7 R7 XC Ra Xa Rb Xb bd
              have p_z : w.heap.size < V7.heap.size := B1.lt
              have p_c0 : V7.cell? ⟨w.heap.size, 0, none⟩ = some (.int .i64 0) := (B1.cell 0).trans rfl
              have p_f0 := B1.frozen 0
              have p_c1 : V7.cell? ⟨w.heap.size, 1, none⟩ = some (.int .i64 0) := (B1.cell 1).trans rfl
              have p_f1 := B1.frozen 1
              have p_c2 : V7.cell? ⟨w.heap.size, 2, none⟩ = some (.slice none 0 0) := (B1.cell 2).trans rfl
              have p_f2 := B1.frozen 2
              have p_c3 : V7.cell? ⟨w.heap.size, 3, none⟩ = some (.slice none 0 0) := (B1.cell 3).trans rfl
              have p_f3 := B1.frozen 3
              have p_c4 : V7.cell? ⟨w.heap.size, 4, none⟩ = some (.int .i64 0) := (B1.cell 4).trans rfl
              have p_f4 := B1.frozen 4
              have p_c5 : V7.cell? ⟨w.heap.size, 5, none⟩ = some (.slice none 0 0) := (B1.cell 5).trans rfl
              have p_f5 := B1.frozen 5
              have q_z : w.heap.size + 1 < V7.heap.size := B2.lt
              have q_c0 : V7.cell? ⟨w.heap.size + 1, 0, none⟩ = some (.int .i64 0) := (B2.cell 0).trans rfl
              have q_f0 := B2.frozen 0
              have q_c1 : V7.cell? ⟨w.heap.size + 1, 1, none⟩ = some (.int .i64 0) := (B2.cell 1).trans rfl
              have q_f1 := B2.frozen 1
              go_region_held3 (fun w' => w'.cell? ⟨w.heap.size + 1 + 1, 0, none⟩ = some (.int .i64 0) ∧ w'.cell? ⟨w.heap.size + 1 + 1, 1, none⟩ = some (.int .i64 0) ∧ w'.cell? ⟨w.heap.size + 1 + 1, 2, none⟩ = some (.slice none 0 0) ∧ w'.cell? ⟨w.heap.size + 1 + 1, 3, none⟩ = some (.slice none 0 0) ∧ w'.cell? ⟨w.heap.size + 1 + 1, 4, none⟩ = some (.int .i64 0) ∧ w'.cell? ⟨w.heap.size + 1 + 1, 5, none⟩ = some (.slice none 0 0) ∧ w'.cell? ⟨g, 0, none⟩ = some (.slice (some ⟨bb, 0, none⟩) L.length d) ∧ w'.cell? ⟨g, 1, none⟩ = some (.int .i64 at6) ∧ w'.cell? ⟨g, 2, none⟩ = some (.int .i64 er6) ∧ w'.cell? ⟨bb, at6 * 5 + 3, none⟩ = some (.int .i64 t.line) ∧ w'.cell? ⟨bb, at6 * 5 + 4, none⟩ = some (.int .i64 t.col)) (first | with_reducible exact K1.out | with_reducible exact K2.out | with_reducible exact K3.out) (fail)
              go_wp2_with fail
              refine bodyPost_ret (v := .tuple #[.agg #[.int .i64 0, .int .i64 0, .slice none 0 0, .slice none 0 0, .int .i64 0, .slice none 0 0], .agg #[.int .i64 t.line, .int .i64 t.col], .int .i64 er6]) (by simp [results, Tryd.results8, go_sem, p_z, q_z, p_f0, p_f1, p_f2, p_f3, p_f4, p_f5, q_f0, q_f1, p_c0, p_c1, p_c2, p_c3, p_c4, p_c5, q_c0, q_c1]) rfl ⟨RB.out, .inl ⟨t.line, t.col, er6, HT.out, rfl⟩⟩
          · have b3 : (t.kind != 3) = true := by simpa using hk
            obtain ⟨ee, hee⟩ : ∃ ee : Int, (if er6 = 0 then (4 : Int) else er6) = ee := ⟨_, rfl⟩
            have HT : Hid (T = .bad t.line t.col ee ∧ ¬ ee = 0) := by
              by_cases e0 : er6 = 0
              · rw [if_pos e0] at hee
                subst hee
                exact Lib.hid ⟨by rw [← HH.out]; exact SN.out e0 (by rw [HH.out]; exact hk), by decide⟩
              · rw [if_neg e0] at hee
                subst hee
                exact Lib.hid ⟨by rw [← HH.out]; exact SB.out e0, e0⟩
            have HEE := Lib.hid hee
            clear SS SB SN hk hee
            go_wp2_with fail
            go_quiet (fail)
            have bq := bl_drewN (Below.refl V6.heap.size V6) nq
            have F7 := F6.below bq
            have R7 := R6.below bq
            have X7 := X6.below bq
            have O7 := O6.below bq
            clear F6 R6 X6 O6 BS s_z s_c0 s_f0 s_c1 s_f1 s_c2 s_f2 y0 y1 y2 y3 y4 bq i0 i1 ic
            generalize V6.drewN nq = V7 at F7 R7 X7 O7 ⊢
            go_wp2_with fail
            refine (ffail_any F7 4).mono ?_; rintro e V8 ⟨rfl, hG8, F8⟩
            rw [HEE.out] at F8
            have R8 := R7.gr hG8 (by omega)
            clear F7 R7 X7 O7 hG8
            have BS := F8.box
            have s_z : g < V8.heap.size := BS.lt
            have s_c0 : V8.cell? ⟨g, 0, none⟩ = some (.slice (some ⟨bb, 0, none⟩) L.length d) := (BS.cell 0).trans rfl
            have s_f0 := BS.frozen 0
            have s_c1 : V8.cell? ⟨g, 1, none⟩ = some (.int .i64 at6) := (BS.cell 1).trans rfl
            have s_f1 := BS.frozen 1
            have s_c2 : V8.cell? ⟨g, 2, none⟩ = some (.int .i64 ee) := (BS.cell 2).trans rfl
            have s_f2 := BS.frozen 2
            have b4 : (ee != 0) = true := by simpa using HT.out.2
            go_wp2_with fail
            clear BS s_z s_c0 s_f0 s_c1 s_f1 s_c2 s_f2
            have XC := CelR.of F8 HH.out
            have j0 : (0 : Int) ≤ at6 := by omega
            have j1 : (at6 : Int) < L.length := by have := F8.lt; omega
            have jc := F8.cap
            have B1 := R8.b1
            have B2 := R8.b2
            have bd := bl_drew (Below.refl _ V8)
            have K1 := Lib.hid (keepS (R8.below bd) XC.drew)
            have Ra := R8.put1 (a' := .int .i64 0) (b' := .int .i64 0) (c' := .slice none 0 0) (d' := .slice none 0 0) (e' := .int .i64 0) (f' := .slice none 0 0)
            have Xa := XC.far6 (p := w.heap.size) (a := .int .i64 0) (b := .int .i64 0) (c' := .slice none 0 0) (d := .slice none 0 0) (e := .int .i64 0) (f := .slice none 0 0) (by omega) (by omega)
            have K2 := Lib.hid (keepS (Ra.below (bl_drew (Below.refl _ _))) Xa.drew)
            have Rb := Ra.put2 (x' := .int .i64 t.line) (y' := .int .i64 t.col)
            have Xb := (Xa.far (p := ⟨w.heap.size + 1, 0, none⟩) (by show _ ≠ w.heap.size + 1; omega) (by show _ ≠ w.heap.size + 1; omega) (.int .i64 t.line)).far (p := ⟨w.heap.size + 1, 1, none⟩) (by show _ ≠ w.heap.size + 1; omega) (by show _ ≠ w.heap.size + 1; omega) (.int .i64 t.col)
            have K3 := Lib.hid (keepS (Rb.below (bl_drew (Below.refl _ _))) Xb.drew)
            have RB := Lib.hid (Rb.below (bl_drew (Below.refl _ _))).bl
            clear F8 R8 XC Ra Xa Rb Xb bd
            have p_z : w.heap.size < V8.heap.size := B1.lt
            have p_c0 : V8.cell? ⟨w.heap.size, 0, none⟩ = some (.int .i64 0) := (B1.cell 0).trans rfl
            have p_f0 := B1.frozen 0
            have p_c1 : V8.cell? ⟨w.heap.size, 1, none⟩ = some (.int .i64 0) := (B1.cell 1).trans rfl
            have p_f1 := B1.frozen 1
            have p_c2 : V8.cell? ⟨w.heap.size, 2, none⟩ = some (.slice none 0 0) := (B1.cell 2).trans rfl
            have p_f2 := B1.frozen 2
            have p_c3 : V8.cell? ⟨w.heap.size, 3, none⟩ = some (.slice none 0 0) := (B1.cell 3).trans rfl
            have p_f3 := B1.frozen 3
            have p_c4 : V8.cell? ⟨w.heap.size, 4, none⟩ = some (.int .i64 0) := (B1.cell 4).trans rfl
            have p_f4 := B1.frozen 4
            have p_c5 : V8.cell? ⟨w.heap.size, 5, none⟩ = some (.slice none 0 0) := (B1.cell 5).trans rfl
            have p_f5 := B1.frozen 5
            have q_z : w.heap.size + 1 < V8.heap.size := B2.lt
            have q_c0 : V8.cell? ⟨w.heap.size + 1, 0, none⟩ = some (.int .i64 0) := (B2.cell 0).trans rfl
            have q_f0 := B2.frozen 0
            have q_c1 : V8.cell? ⟨w.heap.size + 1, 1, none⟩ = some (.int .i64 0) := (B2.cell 1).trans rfl
            have q_f1 := B2.frozen 1
            go_region_held3 (fun w' => w'.cell? ⟨w.heap.size + 1 + 1, 0, none⟩ = some (.int .i64 0) ∧ w'.cell? ⟨w.heap.size + 1 + 1, 1, none⟩ = some (.int .i64 0) ∧ w'.cell? ⟨w.heap.size + 1 + 1, 2, none⟩ = some (.slice none 0 0) ∧ w'.cell? ⟨w.heap.size + 1 + 1, 3, none⟩ = some (.slice none 0 0) ∧ w'.cell? ⟨w.heap.size + 1 + 1, 4, none⟩ = some (.int .i64 0) ∧ w'.cell? ⟨w.heap.size + 1 + 1, 5, none⟩ = some (.slice none 0 0) ∧ w'.cell? ⟨g, 0, none⟩ = some (.slice (some ⟨bb, 0, none⟩) L.length d) ∧ w'.cell? ⟨g, 1, none⟩ = some (.int .i64 at6) ∧ w'.cell? ⟨g, 2, none⟩ = some (.int .i64 ee) ∧ w'.cell? ⟨bb, at6 * 5 + 3, none⟩ = some (.int .i64 t.line) ∧ w'.cell? ⟨bb, at6 * 5 + 4, none⟩ = some (.int .i64 t.col)) (first | with_reducible exact K1.out | with_reducible exact K2.out | with_reducible exact K3.out) (fail)
            go_wp2_with fail
            refine bodyPost_ret (v := .tuple #[.agg #[.int .i64 0, .int .i64 0, .slice none 0 0, .slice none 0 0, .int .i64 0, .slice none 0 0], .agg #[.int .i64 t.line, .int .i64 t.col], .int .i64 ee]) (by simp [results, Tryd.results8, go_sem, p_z, q_z, p_f0, p_f1, p_f2, p_f3, p_f4, p_f5, q_f0, q_f1, p_c0, p_c1, p_c2, p_c3, p_c4, p_c5, q_c0, q_c1]) rfl ⟨RB.out, .inl ⟨t.line, t.col, ee, HT.out.1, rfl⟩⟩
        | false =>
          obtain ⟨b3, h3⟩ : ∃ b, isP wCov L = b := ⟨_, rfl⟩
          cases b3 with
          | true =>
            have v0 := h0
            have v1 := h1
            have v2 := h2
            have v3 := h3
            have hk3 : ¬ (headT L).kind = 3 := is_kind3 h3
            have HI := Lib.hid (fis_any F0 wKnap)
            rw [List.drop_zero, v0] at HI
            skip
            refine HI.out.mono ?_; rintro e Z0 ⟨rfl, hb⟩
            have G0 := F0.below hb
            have Q0 := R1.below hb
            clear HI hb F0 R1
            have HI := Lib.hid (fis_any G0 wAss)
            rw [List.drop_zero, v1] at HI
            go_wp2_with fail
            refine HI.out.mono ?_; rintro e Z1 ⟨rfl, hb⟩
            have G1 := G0.below hb
            have Q1 := Q0.below hb
            clear HI hb G0 Q0
            have HI := Lib.hid (fis_any G1 wTsp)
            rw [List.drop_zero, v2] at HI
            go_wp2_with fail
            refine HI.out.mono ?_; rintro e Z2 ⟨rfl, hb⟩
            have G2 := G1.below hb
            have Q2 := Q1.below hb
            clear HI hb G1 Q1
            have HI := Lib.hid (fis_any G2 wCov)
            rw [List.drop_zero, v3] at HI
            go_wp2_with fail
            refine HI.out.mono ?_; rintro e Z3 ⟨rfl, hb⟩
            have G3 := G2.below hb
            have Q3 := Q2.below hb
            clear HI hb G2 Q2
            have bA := bl_alloc (Below.refl _ Z3) (.cells #[.int .i64 0, .int .i64 0, .slice none 0 0, .slice none 0 0, .int .i64 0, .slice none 0 0] 36)
            have X5 : Blk (Z3.alloc (.cells #[.int .i64 0, .int .i64 0, .slice none 0 0, .slice none 0 0, .int .i64 0, .slice none 0 0] 36)) Z3.heap.size 36 #[.int .i64 0, .int .i64 0, .slice none 0 0, .slice none 0 0, .int .i64 0, .slice none 0 0] := Blk.new _ _ _
            have F4 := G3.below bA
            have R4 := Q3.below bA
            have hxx : g < Z3.heap.size := G3.gl
            have B5 := Q3.b5
            have hx2 : Z3.heap.size < (Z3.alloc (.cells #[.int .i64 0, .int .i64 0, .slice none 0 0, .slice none 0 0, .int .i64 0, .slice none 0 0] 36)).heap.size := X5.lt
            have n_z : w.heap.size + 1 + 1 < Z3.heap.size := B5.lt
            have n_c0 : Z3.cell? ⟨w.heap.size + 1 + 1, 0, none⟩ = some (.int .i64 0) := (B5.cell 0).trans rfl
            have n_f0 := B5.frozen 0
            have n_c1 : Z3.cell? ⟨w.heap.size + 1 + 1, 1, none⟩ = some (.int .i64 0) := (B5.cell 1).trans rfl
            have n_f1 := B5.frozen 1
            have n_c2 : Z3.cell? ⟨w.heap.size + 1 + 1, 2, none⟩ = some (.slice none 0 0) := (B5.cell 2).trans rfl
            have n_f2 := B5.frozen 2
            have n_c3 : Z3.cell? ⟨w.heap.size + 1 + 1, 3, none⟩ = some (.slice none 0 0) := (B5.cell 3).trans rfl
            have n_f3 := B5.frozen 3
            have n_c4 : Z3.cell? ⟨w.heap.size + 1 + 1, 4, none⟩ = some (.int .i64 0) := (B5.cell 4).trans rfl
            have n_f4 := B5.frozen 4
            have n_c5 : Z3.cell? ⟨w.heap.size + 1 + 1, 5, none⟩ = some (.slice none 0 0) := (B5.cell 5).trans rfl
            have n_f5 := B5.frozen 5
            have S4 := G3.box
            have s_z : g < Z3.heap.size := S4.lt
            have s_c0 : Z3.cell? ⟨g, 0, none⟩ = some (.slice (some ⟨bb, 0, none⟩) L.length d) := (S4.cell 0).trans rfl
            have s_f0 := S4.frozen 0
            have s_c1 : Z3.cell? ⟨g, 1, none⟩ = some (.int .i64 0) := (S4.cell 1).trans rfl
            have s_f1 := S4.frozen 1
            have s_c2 : Z3.cell? ⟨g, 2, none⟩ = some (.int .i64 0) := (S4.cell 2).trans rfl
            have s_f2 := S4.frozen 2
            have bA2 := bA
            have hE1 : EndsL (L.drop 1) := by have := hE.tail hk3; rwa [← List.drop_one] at this
            have F5 : Rf ((Z3.setCell ⟨g, 1, none⟩ (.int .i64 1)).alloc (.cells #[.int .i64 0, .int .i64 0, .slice none 0 0, .slice none 0 0, .int .i64 0, .slice none 0 0] 36)) g (some ⟨bb, 0, none⟩) d L 1 0 := (G3.back hE1).below (bl_alloc (Below.refl _ _) _)
            have hsz : (Z3.setCell ⟨g, 1, none⟩ (.int .i64 1)).heap.size = Z3.heap.size := by simp [World.setCell]
            have R5 := (Q3.far (p := ⟨g, 1, none⟩) hg1 (.int .i64 1)).below (bl_alloc (Below.refl _ _) (.cells #[.int .i64 0, .int .i64 0, .slice none 0 0, .slice none 0 0, .int .i64 0, .slice none 0 0] 36))
            have X6 : Blk ((Z3.setCell ⟨g, 1, none⟩ (.int .i64 1)).alloc (.cells #[.int .i64 0, .int .i64 0, .slice none 0 0, .slice none 0 0, .int .i64 0, .slice none 0 0] 36)) Z3.heap.size 36 #[.int .i64 0, .int .i64 0, .slice none 0 0, .slice none 0 0, .int .i64 0, .slice none 0 0] := by
              have := Blk.new (Z3.setCell ⟨g, 1, none⟩ (.int .i64 1)) 36 #[.int .i64 0, .int .i64 0, .slice none 0 0, .slice none 0 0, .int .i64 0, .slice none 0 0]
              rwa [hsz] at this
            clear F4 R4 X5 bA bA2 hsz G3 Q3 hx2
            go_wp2_with fail
            clear s_z s_c0 s_f0 s_c1 s_f1 s_c2 s_f2 S4 B5 n_z n_c0 n_f0 n_c1 n_f1 n_c2 n_f2 n_c3 n_f3 n_c4 n_f4 n_c5 n_f5
            generalize (Z3.setCell ⟨g, 1, none⟩ (.int .i64 1)).alloc (.cells #[.int .i64 0, .int .i64 0, .slice none 0 0, .slice none 0 0, .int .i64 0, .slice none 0 0] 36) = V5 at F5 R5 X6 ⊢
            have hx2 := X6.lt
            generalize Z3.heap.size = xx at X6 hxx hx2 ⊢
            refine (fcov_any F5).mono ?_; rintro e V6 ⟨I, at6, er6, D1, d1, D2, d2, D3, d3, rfl, hG, F6, hA, O6⟩
            have R6 := R5.gr hG hg1
            have X7 := X6.gr hG (by omega)
            have hx3 := hG.hs
            clear F5 R5 X6 hG
            have x_z : xx < V6.heap.size := X7.lt
            have x_c0 : V6.cell? ⟨xx, 0, none⟩ = some (.int .i64 0) := (X7.cell 0).trans rfl
            have x_f0 := X7.frozen 0
            have x_c1 : V6.cell? ⟨xx, 1, none⟩ = some (.int .i64 0) := (X7.cell 1).trans rfl
            have x_f1 := X7.frozen 1
            have x_c2 : V6.cell? ⟨xx, 2, none⟩ = some (.slice none 0 0) := (X7.cell 2).trans rfl
            have x_f2 := X7.frozen 2
            have x_c3 : V6.cell? ⟨xx, 3, none⟩ = some (.slice none 0 0) := (X7.cell 3).trans rfl
            have x_f3 := X7.frozen 3
            have x_c4 : V6.cell? ⟨xx, 4, none⟩ = some (.int .i64 0) := (X7.cell 4).trans rfl
            have x_f4 := X7.frozen 4
            have x_c5 : V6.cell? ⟨xx, 5, none⟩ = some (.slice none 0 0) := (X7.cell 5).trans rfl
            have x_f5 := X7.frozen 5
            have F8 : Rf (((((((V6).setCell ⟨xx, 0, none⟩ (.int .i64 I.kind)).setCell ⟨xx, 1, none⟩ (.int .i64 I.cap)).setCell ⟨xx, 2, none⟩ (.slice D1 I.items.length d1)).setCell ⟨xx, 3, none⟩ (.slice D2 I.cost.length d2)).setCell ⟨xx, 4, none⟩ (.int .i64 I.size)).setCell ⟨xx, 5, none⟩ (.slice D3 I.sets.length d3)) g (some ⟨bb, 0, none⟩) d L at6 er6 := (((((F6.far (p := ⟨xx, 0, none⟩) hxx _).far (p := ⟨xx, 1, none⟩) hxx _).far (p := ⟨xx, 2, none⟩) hxx _).far (p := ⟨xx, 3, none⟩) hxx _).far (p := ⟨xx, 4, none⟩) hxx _).far (p := ⟨xx, 5, none⟩) hxx _
            have R8 := R6.far6 (p := xx) (by omega) (a := .int .i64 I.kind) (b := .int .i64 I.cap) (c' := .slice D1 I.items.length d1) (d := .slice D2 I.cost.length d2) (e := .int .i64 I.size) (f := .slice D3 I.sets.length d3)
            have X8 := X7.put6 (a' := .int .i64 I.kind) (b' := .int .i64 I.cap) (c2 := .slice D1 I.items.length d1) (d' := .slice D2 I.cost.length d2) (e' := .int .i64 I.size) (f' := .slice D3 I.sets.length d3)
            have O8 := O6.res6 (r := xx) (by omega) (.int .i64 I.kind) (.int .i64 I.cap) (.slice D1 I.items.length d1) (.slice D2 I.cost.length d2) (.int .i64 I.size) (.slice D3 I.sets.length d3)
            clear F6 R6 O6
            go_wp2_with fail
            clear x_z x_c0 x_f0 x_c1 x_f1 x_c2 x_f2 x_c3 x_f3 x_c4 x_f4 x_c5 x_f5 X7
            generalize ((((((V6).setCell ⟨xx, 0, none⟩ (.int .i64 I.kind)).setCell ⟨xx, 1, none⟩ (.int .i64 I.cap)).setCell ⟨xx, 2, none⟩ (.slice D1 I.items.length d1)).setCell ⟨xx, 3, none⟩ (.slice D2 I.cost.length d2)).setCell ⟨xx, 4, none⟩ (.int .i64 I.size)).setCell ⟨xx, 5, none⟩ (.slice D3 I.sets.length d3) = V6 at F8 R8 X8 O8 ⊢
            have F6 := F8
            have R6 := R8
            have X6 := X8
            have O6 := Lib.hid (O8.more (base' := w.heap.size + 1 + 1 + 1) (by omega))
            replace O6 := O6.out
            clear F8 R8 X8 O8 hx2 hx3
            have htl1 : L.tail = L.drop 1 := (List.drop_one).symm
            have hW : ((coverP (L.drop 1)).bind fun x l1 => if (headT l1).kind = 3 then PR.ok x l1 else failP l1 4).out = T := by
              have h := hT'
              rw [v0, v1, v2, v3] at h
              simp only [Bool.false_eq_true, if_false, if_true, htl1] at h
              exact h
            have SS : Hid (er6 = 0 → (headT (L.drop at6)).kind = 3 → T = .ok I) := Lib.hid (fun h1 h2 => by
              rcases hA with ⟨_, hA⟩ | ⟨hA, _⟩
              · rw [hA, PR.bind_ok, if_pos h2] at hW; exact hW.symm
              · exact absurd h1 hA)
            have SN : Hid (er6 = 0 → ¬ (headT (L.drop at6)).kind = 3 → T = .bad (headT (L.drop at6)).line (headT (L.drop at6)).col 4) := Lib.hid (fun h1 h2 => by
              rcases hA with ⟨_, hA⟩ | ⟨hA, _⟩
              · rw [hA, PR.bind_ok, if_neg h2] at hW; exact hW.symm
              · exact absurd h1 hA)
            have SB : Hid (¬ er6 = 0 → T = .bad (headT (L.drop at6)).line (headT (L.drop at6)).col er6) := Lib.hid (fun h1 => by
              rcases hA with ⟨hA, _⟩ | ⟨_, hA⟩
              · exact absurd hA h1
              · rw [hA, PR.bind_bad] at hW; exact hW.symm)
            clear hA hW hT' htl1 hk3 hE1 hE v0 v1 v2 v3 h0 h1 h2 h3
            obtain ⟨_, t, _, hh, htl⟩ := F6.ends.drop_head
            have HH := Lib.hid hh
            have i0 : (0 : Int) ≤ at6 := by omega
            have i1 : (at6 : Int) < L.length := by have := F6.lt; omega
            have ic := F6.cap
            obtain ⟨y0, y1, y2, y3, y4⟩ := tok5 F6 hh
            rw [Nat.zero_add] at y0 y1 y2 y3 y4
            have BS := F6.box
            clear hh htl
            have s_z : g < V6.heap.size := BS.lt
            have s_c0 : V6.cell? ⟨g, 0, none⟩ = some (.slice (some ⟨bb, 0, none⟩) L.length d) := (BS.cell 0).trans rfl
            have s_f0 := BS.frozen 0
            have s_c1 : V6.cell? ⟨g, 1, none⟩ = some (.int .i64 at6) := (BS.cell 1).trans rfl
            have s_f1 := BS.frozen 1
            have s_c2 : V6.cell? ⟨g, 2, none⟩ = some (.int .i64 er6) := (BS.cell 2).trans rfl
            have s_f2 := BS.frozen 2
            by_cases hk : t.kind = 3
            · have b3 : (t.kind != 3) = false := by simpa using hk
              by_cases e0 : er6 = 0
              · subst e0
                have HT := Lib.hid (SS.out rfl (by rw [HH.out]; exact hk))
                clear SS SB hk
                go_wp2_with fail
                go_quiet (fail)
                have bq := bl_drewN (Below.refl V6.heap.size V6) nq
                have F7 := F6.below bq
                have R7 := R6.below bq
                have X7 := X6.below bq
                have O7 := O6.below bq
                clear F6 R6 X6 O6 BS s_z s_c0 s_f0 s_c1 s_f1 s_c2 s_f2 y0 y1 y2 y3 y4 bq i0 i1 ic
                generalize V6.drewN nq = V7 at F7 R7 X7 O7 ⊢
                have BS := F7.box
                have s_z : g < V7.heap.size := BS.lt
                have s_c0 : V7.cell? ⟨g, 0, none⟩ = some (.slice (some ⟨bb, 0, none⟩) L.length d) := (BS.cell 0).trans rfl
                have s_f0 := BS.frozen 0
                have s_c1 : V7.cell? ⟨g, 1, none⟩ = some (.int .i64 at6) := (BS.cell 1).trans rfl
                have s_f1 := BS.frozen 1
                have s_c2 : V7.cell? ⟨g, 2, none⟩ = some (.int .i64 0) := (BS.cell 2).trans rfl
                have s_f2 := BS.frozen 2
                have B7 := R7.b1
                have B8 := R7.b2
                have p_z : w.heap.size < V7.heap.size := B7.lt
                have p_c0 : V7.cell? ⟨w.heap.size, 0, none⟩ = some (.int .i64 0) := (B7.cell 0).trans rfl
                have p_f0 := B7.frozen 0
                have p_c1 : V7.cell? ⟨w.heap.size, 1, none⟩ = some (.int .i64 0) := (B7.cell 1).trans rfl
                have p_f1 := B7.frozen 1
                have p_c2 : V7.cell? ⟨w.heap.size, 2, none⟩ = some (.slice none 0 0) := (B7.cell 2).trans rfl
                have p_f2 := B7.frozen 2
                have p_c3 : V7.cell? ⟨w.heap.size, 3, none⟩ = some (.slice none 0 0) := (B7.cell 3).trans rfl
                have p_f3 := B7.frozen 3
                have p_c4 : V7.cell? ⟨w.heap.size, 4, none⟩ = some (.int .i64 0) := (B7.cell 4).trans rfl
                have p_f4 := B7.frozen 4
                have p_c5 : V7.cell? ⟨w.heap.size, 5, none⟩ = some (.slice none 0 0) := (B7.cell 5).trans rfl
                have p_f5 := B7.frozen 5
                have q_z : w.heap.size + 1 < V7.heap.size := B8.lt
                have q_c0 : V7.cell? ⟨w.heap.size + 1, 0, none⟩ = some (.int .i64 0) := (B8.cell 0).trans rfl
                have q_f0 := B8.frozen 0
                have q_c1 : V7.cell? ⟨w.heap.size + 1, 1, none⟩ = some (.int .i64 0) := (B8.cell 1).trans rfl
                have q_f1 := B8.frozen 1
                have x_z : xx < V7.heap.size := X7.lt
                have x_c0 : V7.cell? ⟨xx, 0, none⟩ = some (.int .i64 I.kind) := (X7.cell 0).trans rfl
                have x_f0 := X7.frozen 0
                have x_c1 : V7.cell? ⟨xx, 1, none⟩ = some (.int .i64 I.cap) := (X7.cell 1).trans rfl
                have x_f1 := X7.frozen 1
                have x_c2 : V7.cell? ⟨xx, 2, none⟩ = some (.slice D1 I.items.length d1) := (X7.cell 2).trans rfl
                have x_f2 := X7.frozen 2
                have x_c3 : V7.cell? ⟨xx, 3, none⟩ = some (.slice D2 I.cost.length d2) := (X7.cell 3).trans rfl
                have x_f3 := X7.frozen 3
                have x_c4 : V7.cell? ⟨xx, 4, none⟩ = some (.int .i64 I.size) := (X7.cell 4).trans rfl
                have x_f4 := X7.frozen 4
                have x_c5 : V7.cell? ⟨xx, 5, none⟩ = some (.slice D3 I.sets.length d3) := (X7.cell 5).trans rfl
                have x_f5 := X7.frozen 5
                have e1 : ¬ xx = w.heap.size := by omega
                have e2 : ¬ xx = w.heap.size + 1 := by omega
                have e3 : ¬ w.heap.size = xx := by omega
                have e4 : ¬ w.heap.size + 1 = xx := by omega
                go_wp2_with fail
                refine bodyPost_ret (v := .tuple #[.agg #[.int .i64 I.kind, .int .i64 I.cap, .slice D1 I.items.length d1, .slice D2 I.cost.length d2, .int .i64 I.size, .slice D3 I.sets.length d3], .agg #[.int .i64 0, .int .i64 0], .int .i64 0]) (by simp [results, Tryd.results8, go_sem, p_c0, p_c1, p_c2, p_c3, p_c4, p_c5, q_c0, q_c1, p_f0, p_f1, p_f2, p_f3, p_f4, p_f5, q_f0, q_f1, p_z, q_z]) rfl ⟨(R7.put1.put2).bl, .inr ⟨I, D1, d1, D2, d2, D3, d3, HT.out, rfl, ?_⟩⟩
                have O8 := ((O7.more (base' := w.heap.size + 1 + 1) (by omega)).res6 (r := w.heap.size) (by omega) (.int .i64 I.kind) (.int .i64 I.cap) (.slice D1 I.items.length d1) (.slice D2 I.cost.length d2) (.int .i64 I.size) (.slice D3 I.sets.length d3)).set (p := ⟨w.heap.size + 1, 0, none⟩) (Nat.lt_succ_self _) (.int .i64 0) |>.set (p := ⟨w.heap.size + 1, 1, none⟩) (Nat.lt_succ_self _) (.int .i64 0)
                exact O8.more (by omega)
              · have b4 : (er6 != 0) = true := by simpa using e0
                have HT : Hid (T = .bad t.line t.col er6) := Lib.hid (by rw [← HH.out]; exact SB.out e0)
                clear SS SB hk e0
                go_wp2_with fail
                go_quiet (fail)
                have bq := bl_drewN (Below.refl V6.heap.size V6) nq
                have F7 := F6.below bq
                have R7 := R6.below bq
                have X7 := X6.below bq
                have O7 := O6.below bq
                clear F6 R6 X6 O6 BS s_z s_c0 s_f0 s_c1 s_f1 s_c2 s_f2 y0 y1 y2 y3 y4 bq i0 i1 ic
                generalize V6.drewN nq = V7 at F7 R7 X7 O7 ⊢
                have BS := F7.box
                have s_z : g < V7.heap.size := BS.lt
                have s_c0 : V7.cell? ⟨g, 0, none⟩ = some (.slice (some ⟨bb, 0, none⟩) L.length d) := (BS.cell 0).trans rfl
                have s_f0 := BS.frozen 0
                have s_c1 : V7.cell? ⟨g, 1, none⟩ = some (.int .i64 at6) := (BS.cell 1).trans rfl
                have s_f1 := BS.frozen 1
                have s_c2 : V7.cell? ⟨g, 2, none⟩ = some (.int .i64 er6) := (BS.cell 2).trans rfl
                have s_f2 := BS.frozen 2
                go_wp2_with fail
                clear BS s_z s_c0 s_f0 s_c1 s_f1 s_c2 s_f2 X7 O7
                have XC := CelR.of F7 HH.out
                have j0 : (0 : Int) ≤ at6 := by omega
                have j1 : (at6 : Int) < L.length := by have := F7.lt; omega
                have jc := F7.cap
                have B1 := R7.b1
                have B2 := R7.b2
                have bd := bl_drew (Below.refl _ V7)
                have K1 := Lib.hid (keepS (R7.below bd) XC.drew)
                have Ra := R7.put1 (a' := .int .i64 0) (b' := .int .i64 0) (c' := .slice none 0 0) (d' := .slice none 0 0) (e' := .int .i64 0) (f' := .slice none 0 0)
                have Xa := XC.far6 (p := w.heap.size) (a := .int .i64 0) (b := .int .i64 0) (c' := .slice none 0 0) (d := .slice none 0 0) (e := .int .i64 0) (f := .slice none 0 0) (by omega) (by omega)
                have K2 := Lib.hid (keepS (Ra.below (bl_drew (Below.refl _ _))) Xa.drew)
                have Rb := Ra.put2 (x' := .int .i64 t.line) (y' := .int .i64 t.col)
                have Xb := (Xa.far (p := ⟨w.heap.size + 1, 0, none⟩) (by show _ ≠ w.heap.size + 1; omega) (by show _ ≠ w.heap.size + 1; omega) (.int .i64 t.line)).far (p := ⟨w.heap.size + 1, 1, none⟩) (by show _ ≠ w.heap.size + 1; omega) (by show _ ≠ w.heap.size + 1; omega) (.int .i64 t.col)
                have K3 := Lib.hid (keepS (Rb.below (bl_drew (Below.refl _ _))) Xb.drew)
                have RB := Lib.hid (Rb.below (bl_drew (Below.refl _ _))).bl
                clear F7 R7 XC Ra Xa Rb Xb bd
                have p_z : w.heap.size < V7.heap.size := B1.lt
                have p_c0 : V7.cell? ⟨w.heap.size, 0, none⟩ = some (.int .i64 0) := (B1.cell 0).trans rfl
                have p_f0 := B1.frozen 0
                have p_c1 : V7.cell? ⟨w.heap.size, 1, none⟩ = some (.int .i64 0) := (B1.cell 1).trans rfl
                have p_f1 := B1.frozen 1
                have p_c2 : V7.cell? ⟨w.heap.size, 2, none⟩ = some (.slice none 0 0) := (B1.cell 2).trans rfl
                have p_f2 := B1.frozen 2
                have p_c3 : V7.cell? ⟨w.heap.size, 3, none⟩ = some (.slice none 0 0) := (B1.cell 3).trans rfl
                have p_f3 := B1.frozen 3
                have p_c4 : V7.cell? ⟨w.heap.size, 4, none⟩ = some (.int .i64 0) := (B1.cell 4).trans rfl
                have p_f4 := B1.frozen 4
                have p_c5 : V7.cell? ⟨w.heap.size, 5, none⟩ = some (.slice none 0 0) := (B1.cell 5).trans rfl
                have p_f5 := B1.frozen 5
                have q_z : w.heap.size + 1 < V7.heap.size := B2.lt
                have q_c0 : V7.cell? ⟨w.heap.size + 1, 0, none⟩ = some (.int .i64 0) := (B2.cell 0).trans rfl
                have q_f0 := B2.frozen 0
                have q_c1 : V7.cell? ⟨w.heap.size + 1, 1, none⟩ = some (.int .i64 0) := (B2.cell 1).trans rfl
                have q_f1 := B2.frozen 1
                go_region_held3 (fun w' => w'.cell? ⟨w.heap.size + 1 + 1, 0, none⟩ = some (.int .i64 0) ∧ w'.cell? ⟨w.heap.size + 1 + 1, 1, none⟩ = some (.int .i64 0) ∧ w'.cell? ⟨w.heap.size + 1 + 1, 2, none⟩ = some (.slice none 0 0) ∧ w'.cell? ⟨w.heap.size + 1 + 1, 3, none⟩ = some (.slice none 0 0) ∧ w'.cell? ⟨w.heap.size + 1 + 1, 4, none⟩ = some (.int .i64 0) ∧ w'.cell? ⟨w.heap.size + 1 + 1, 5, none⟩ = some (.slice none 0 0) ∧ w'.cell? ⟨g, 0, none⟩ = some (.slice (some ⟨bb, 0, none⟩) L.length d) ∧ w'.cell? ⟨g, 1, none⟩ = some (.int .i64 at6) ∧ w'.cell? ⟨g, 2, none⟩ = some (.int .i64 er6) ∧ w'.cell? ⟨bb, at6 * 5 + 3, none⟩ = some (.int .i64 t.line) ∧ w'.cell? ⟨bb, at6 * 5 + 4, none⟩ = some (.int .i64 t.col)) (first | with_reducible exact K1.out | with_reducible exact K2.out | with_reducible exact K3.out) (fail)
                go_wp2_with fail
                refine bodyPost_ret (v := .tuple #[.agg #[.int .i64 0, .int .i64 0, .slice none 0 0, .slice none 0 0, .int .i64 0, .slice none 0 0], .agg #[.int .i64 t.line, .int .i64 t.col], .int .i64 er6]) (by simp [results, Tryd.results8, go_sem, p_z, q_z, p_f0, p_f1, p_f2, p_f3, p_f4, p_f5, q_f0, q_f1, p_c0, p_c1, p_c2, p_c3, p_c4, p_c5, q_c0, q_c1]) rfl ⟨RB.out, .inl ⟨t.line, t.col, er6, HT.out, rfl⟩⟩
            · have b3 : (t.kind != 3) = true := by simpa using hk
              obtain ⟨ee, hee⟩ : ∃ ee : Int, (if er6 = 0 then (4 : Int) else er6) = ee := ⟨_, rfl⟩
              have HT : Hid (T = .bad t.line t.col ee ∧ ¬ ee = 0) := by
                by_cases e0 : er6 = 0
                · rw [if_pos e0] at hee
                  subst hee
                  exact Lib.hid ⟨by rw [← HH.out]; exact SN.out e0 (by rw [HH.out]; exact hk), by decide⟩
                · rw [if_neg e0] at hee
                  subst hee
                  exact Lib.hid ⟨by rw [← HH.out]; exact SB.out e0, e0⟩
              have HEE := Lib.hid hee
              clear SS SB SN hk hee
              go_wp2_with fail
              go_quiet (fail)
              have bq := bl_drewN (Below.refl V6.heap.size V6) nq
              have F7 := F6.below bq
              have R7 := R6.below bq
              have X7 := X6.below bq
              have O7 := O6.below bq
              clear F6 R6 X6 O6 BS s_z s_c0 s_f0 s_c1 s_f1 s_c2 s_f2 y0 y1 y2 y3 y4 bq i0 i1 ic
              generalize V6.drewN nq = V7 at F7 R7 X7 O7 ⊢
              go_wp2_with fail
              refine (ffail_any F7 4).mono ?_; rintro e V8 ⟨rfl, hG8, F8⟩
              rw [HEE.out] at F8
              have R8 := R7.gr hG8 (by omega)
              clear F7 R7 X7 O7 hG8
              have BS := F8.box
              have s_z : g < V8.heap.size := BS.lt
              have s_c0 : V8.cell? ⟨g, 0, none⟩ = some (.slice (some ⟨bb, 0, none⟩) L.length d) := (BS.cell 0).trans rfl
              have s_f0 := BS.frozen 0
              have s_c1 : V8.cell? ⟨g, 1, none⟩ = some (.int .i64 at6) := (BS.cell 1).trans rfl
              have s_f1 := BS.frozen 1
              have s_c2 : V8.cell? ⟨g, 2, none⟩ = some (.int .i64 ee) := (BS.cell 2).trans rfl
              have s_f2 := BS.frozen 2
              have b4 : (ee != 0) = true := by simpa using HT.out.2
              go_wp2_with fail
              clear BS s_z s_c0 s_f0 s_c1 s_f1 s_c2 s_f2
              have XC := CelR.of F8 HH.out
              have j0 : (0 : Int) ≤ at6 := by omega
              have j1 : (at6 : Int) < L.length := by have := F8.lt; omega
              have jc := F8.cap
              have B1 := R8.b1
              have B2 := R8.b2
              have bd := bl_drew (Below.refl _ V8)
              have K1 := Lib.hid (keepS (R8.below bd) XC.drew)
              have Ra := R8.put1 (a' := .int .i64 0) (b' := .int .i64 0) (c' := .slice none 0 0) (d' := .slice none 0 0) (e' := .int .i64 0) (f' := .slice none 0 0)
              have Xa := XC.far6 (p := w.heap.size) (a := .int .i64 0) (b := .int .i64 0) (c' := .slice none 0 0) (d := .slice none 0 0) (e := .int .i64 0) (f := .slice none 0 0) (by omega) (by omega)
              have K2 := Lib.hid (keepS (Ra.below (bl_drew (Below.refl _ _))) Xa.drew)
              have Rb := Ra.put2 (x' := .int .i64 t.line) (y' := .int .i64 t.col)
              have Xb := (Xa.far (p := ⟨w.heap.size + 1, 0, none⟩) (by show _ ≠ w.heap.size + 1; omega) (by show _ ≠ w.heap.size + 1; omega) (.int .i64 t.line)).far (p := ⟨w.heap.size + 1, 1, none⟩) (by show _ ≠ w.heap.size + 1; omega) (by show _ ≠ w.heap.size + 1; omega) (.int .i64 t.col)
              have K3 := Lib.hid (keepS (Rb.below (bl_drew (Below.refl _ _))) Xb.drew)
              have RB := Lib.hid (Rb.below (bl_drew (Below.refl _ _))).bl
              clear F8 R8 XC Ra Xa Rb Xb bd
              have p_z : w.heap.size < V8.heap.size := B1.lt
              have p_c0 : V8.cell? ⟨w.heap.size, 0, none⟩ = some (.int .i64 0) := (B1.cell 0).trans rfl
              have p_f0 := B1.frozen 0
              have p_c1 : V8.cell? ⟨w.heap.size, 1, none⟩ = some (.int .i64 0) := (B1.cell 1).trans rfl
              have p_f1 := B1.frozen 1
              have p_c2 : V8.cell? ⟨w.heap.size, 2, none⟩ = some (.slice none 0 0) := (B1.cell 2).trans rfl
              have p_f2 := B1.frozen 2
              have p_c3 : V8.cell? ⟨w.heap.size, 3, none⟩ = some (.slice none 0 0) := (B1.cell 3).trans rfl
              have p_f3 := B1.frozen 3
              have p_c4 : V8.cell? ⟨w.heap.size, 4, none⟩ = some (.int .i64 0) := (B1.cell 4).trans rfl
              have p_f4 := B1.frozen 4
              have p_c5 : V8.cell? ⟨w.heap.size, 5, none⟩ = some (.slice none 0 0) := (B1.cell 5).trans rfl
              have p_f5 := B1.frozen 5
              have q_z : w.heap.size + 1 < V8.heap.size := B2.lt
              have q_c0 : V8.cell? ⟨w.heap.size + 1, 0, none⟩ = some (.int .i64 0) := (B2.cell 0).trans rfl
              have q_f0 := B2.frozen 0
              have q_c1 : V8.cell? ⟨w.heap.size + 1, 1, none⟩ = some (.int .i64 0) := (B2.cell 1).trans rfl
              have q_f1 := B2.frozen 1
              go_region_held3 (fun w' => w'.cell? ⟨w.heap.size + 1 + 1, 0, none⟩ = some (.int .i64 0) ∧ w'.cell? ⟨w.heap.size + 1 + 1, 1, none⟩ = some (.int .i64 0) ∧ w'.cell? ⟨w.heap.size + 1 + 1, 2, none⟩ = some (.slice none 0 0) ∧ w'.cell? ⟨w.heap.size + 1 + 1, 3, none⟩ = some (.slice none 0 0) ∧ w'.cell? ⟨w.heap.size + 1 + 1, 4, none⟩ = some (.int .i64 0) ∧ w'.cell? ⟨w.heap.size + 1 + 1, 5, none⟩ = some (.slice none 0 0) ∧ w'.cell? ⟨g, 0, none⟩ = some (.slice (some ⟨bb, 0, none⟩) L.length d) ∧ w'.cell? ⟨g, 1, none⟩ = some (.int .i64 at6) ∧ w'.cell? ⟨g, 2, none⟩ = some (.int .i64 ee) ∧ w'.cell? ⟨bb, at6 * 5 + 3, none⟩ = some (.int .i64 t.line) ∧ w'.cell? ⟨bb, at6 * 5 + 4, none⟩ = some (.int .i64 t.col)) (first | with_reducible exact K1.out | with_reducible exact K2.out | with_reducible exact K3.out) (fail)
              go_wp2_with fail
              refine bodyPost_ret (v := .tuple #[.agg #[.int .i64 0, .int .i64 0, .slice none 0 0, .slice none 0 0, .int .i64 0, .slice none 0 0], .agg #[.int .i64 t.line, .int .i64 t.col], .int .i64 ee]) (by simp [results, Tryd.results8, go_sem, p_z, q_z, p_f0, p_f1, p_f2, p_f3, p_f4, p_f5, q_f0, q_f1, p_c0, p_c1, p_c2, p_c3, p_c4, p_c5, q_c0, q_c1]) rfl ⟨RB.out, .inl ⟨t.line, t.col, ee, HT.out.1, rfl⟩⟩
          | false =>
            have v0 := h0
            have v1 := h1
            have v2 := h2
            have v3 := h3
            have HI := Lib.hid (fis_any F0 wKnap)
            rw [List.drop_zero, v0] at HI
            skip
            refine HI.out.mono ?_; rintro e Z0 ⟨rfl, hb⟩
            have G0 := F0.below hb
            have Q0 := R1.below hb
            clear HI hb F0 R1
            have HI := Lib.hid (fis_any G0 wAss)
            rw [List.drop_zero, v1] at HI
            go_wp2_with fail
            refine HI.out.mono ?_; rintro e Z1 ⟨rfl, hb⟩
            have G1 := G0.below hb
            have Q1 := Q0.below hb
            clear HI hb G0 Q0
            have HI := Lib.hid (fis_any G1 wTsp)
            rw [List.drop_zero, v2] at HI
            go_wp2_with fail
            refine HI.out.mono ?_; rintro e Z2 ⟨rfl, hb⟩
            have G2 := G1.below hb
            have Q2 := Q1.below hb
            clear HI hb G1 Q1
            have HI := Lib.hid (fis_any G2 wCov)
            rw [List.drop_zero, v3] at HI
            go_wp2_with fail
            refine HI.out.mono ?_; rintro e Z3 ⟨rfl, hb⟩
            have G3 := G2.below hb
            have Q3 := Q2.below hb
            clear HI hb G2 Q2
            have bA := bl_alloc (Below.refl _ Z3) (.cells #[.int .i64 0, .int .i64 0, .slice none 0 0, .slice none 0 0, .int .i64 0, .slice none 0 0] 36)
            have X5 : Blk (Z3.alloc (.cells #[.int .i64 0, .int .i64 0, .slice none 0 0, .slice none 0 0, .int .i64 0, .slice none 0 0] 36)) Z3.heap.size 36 #[.int .i64 0, .int .i64 0, .slice none 0 0, .slice none 0 0, .int .i64 0, .slice none 0 0] := Blk.new _ _ _
            have F4 := G3.below bA
            have R4 := Q3.below bA
            have hxx : g < Z3.heap.size := G3.gl
            have B5 := Q3.b5
            have hx2 : Z3.heap.size < (Z3.alloc (.cells #[.int .i64 0, .int .i64 0, .slice none 0 0, .slice none 0 0, .int .i64 0, .slice none 0 0] 36)).heap.size := X5.lt
            have n_z : w.heap.size + 1 + 1 < Z3.heap.size := B5.lt
            have n_c0 : Z3.cell? ⟨w.heap.size + 1 + 1, 0, none⟩ = some (.int .i64 0) := (B5.cell 0).trans rfl
            have n_f0 := B5.frozen 0
            have n_c1 : Z3.cell? ⟨w.heap.size + 1 + 1, 1, none⟩ = some (.int .i64 0) := (B5.cell 1).trans rfl
            have n_f1 := B5.frozen 1
            have n_c2 : Z3.cell? ⟨w.heap.size + 1 + 1, 2, none⟩ = some (.slice none 0 0) := (B5.cell 2).trans rfl
            have n_f2 := B5.frozen 2
            have n_c3 : Z3.cell? ⟨w.heap.size + 1 + 1, 3, none⟩ = some (.slice none 0 0) := (B5.cell 3).trans rfl
            have n_f3 := B5.frozen 3
            have n_c4 : Z3.cell? ⟨w.heap.size + 1 + 1, 4, none⟩ = some (.int .i64 0) := (B5.cell 4).trans rfl
            have n_f4 := B5.frozen 4
            have n_c5 : Z3.cell? ⟨w.heap.size + 1 + 1, 5, none⟩ = some (.slice none 0 0) := (B5.cell 5).trans rfl
            have n_f5 := B5.frozen 5
            have SB : Hid (T = .bad (headT (L.drop 0)).line (headT (L.drop 0)).col 4) := by
              have h := hT'
              rw [v0, v1, v2, v3] at h
              exact Lib.hid h.symm
            clear hT' hE v0 v1 v2 v3 h0 h1 h2 h3 G3 Q3 bA
            go_wp2_with fail
            clear B5 n_z n_c0 n_f0 n_c1 n_f1 n_c2 n_f2 n_c3 n_f3 n_c4 n_f4 n_c5 n_f5
            generalize Z3.alloc (.cells #[.int .i64 0, .int .i64 0, .slice none 0 0, .slice none 0 0, .int .i64 0, .slice none 0 0] 36) = V5 at F4 R4 X5 hx2 ⊢
            generalize Z3.heap.size = xx at X5 hxx hx2 ⊢
            refine (ffail_any F4 4).mono ?_; rintro e V6 ⟨rfl, hG, F6⟩
            rw [if_pos rfl] at F6
            have R6 := R4.gr hG hg1
            have X6 := X5.gr hG (by omega)
            have O6 : Own3 V6 0 83 84 ⟨0, 0, [], [], 0, []⟩ none 0 none 0 none 0 := ⟨own_nil _ _ _ _, r_nil _ _ _ _, s_nil _ _ _ _⟩
            clear F4 R4 X5 hG hx2
            obtain ⟨_, t, _, hh, htl⟩ := F6.ends.drop_head
            have HH := Lib.hid hh
            have i0 : (0 : Int) ≤ (0 : Nat) := by omega
            have i1 : ((0 : Nat) : Int) < L.length := by have := F6.lt; omega
            have ic := F6.cap
            obtain ⟨y0, y1, y2, y3, y4⟩ := tok5 F6 hh
            rw [Nat.zero_add] at y0 y1 y2 y3 y4
            have BS := F6.box
            clear hh htl
            have s_z : g < V6.heap.size := BS.lt
            have s_c0 : V6.cell? ⟨g, 0, none⟩ = some (.slice (some ⟨bb, 0, none⟩) L.length d) := (BS.cell 0).trans rfl
            have s_f0 := BS.frozen 0
            have s_c1 : V6.cell? ⟨g, 1, none⟩ = some (.int .i64 (0 : Nat)) := (BS.cell 1).trans rfl
            have s_f1 := BS.frozen 1
            have s_c2 : V6.cell? ⟨g, 2, none⟩ = some (.int .i64 4) := (BS.cell 2).trans rfl
            have s_f2 := BS.frozen 2
            by_cases hk : t.kind = 3
            · have b3 : (t.kind != 3) = false := by simpa using hk
              have HT : Hid (T = .bad t.line t.col 4) := Lib.hid (by rw [← HH.out]; exact SB.out)
              clear SB hk
              go_wp2_with fail
              go_quiet (fail)
              have bq := bl_drewN (Below.refl V6.heap.size V6) nq
              have F7 := F6.below bq
              have R7 := R6.below bq
              have X7 := X6.below bq
              have O7 := O6.below bq
              clear F6 R6 X6 O6 BS s_z s_c0 s_f0 s_c1 s_f1 s_c2 s_f2 y0 y1 y2 y3 y4 bq i0 i1 ic
              generalize V6.drewN nq = V7 at F7 R7 X7 O7 ⊢
              have BS := F7.box
              have s_z : g < V7.heap.size := BS.lt
              have s_c0 : V7.cell? ⟨g, 0, none⟩ = some (.slice (some ⟨bb, 0, none⟩) L.length d) := (BS.cell 0).trans rfl
              have s_f0 := BS.frozen 0
              have s_c1 : V7.cell? ⟨g, 1, none⟩ = some (.int .i64 (0 : Nat)) := (BS.cell 1).trans rfl
              have s_f1 := BS.frozen 1
              have s_c2 : V7.cell? ⟨g, 2, none⟩ = some (.int .i64 4) := (BS.cell 2).trans rfl
              have s_f2 := BS.frozen 2
              go_wp2_with fail
              clear BS s_z s_c0 s_f0 s_c1 s_f1 s_c2 s_f2 X7 O7
              have XC := CelR.of F7 HH.out
              have j0 : (0 : Int) ≤ (0 : Nat) := by omega
              have j1 : ((0 : Nat) : Int) < L.length := by have := F7.lt; omega
              have jc := F7.cap
              have B1 := R7.b1
              have B2 := R7.b2
              have bd := bl_drew (Below.refl _ V7)
              have K1 := Lib.hid (keepS (R7.below bd) XC.drew)
              have Ra := R7.put1 (a' := .int .i64 0) (b' := .int .i64 0) (c' := .slice none 0 0) (d' := .slice none 0 0) (e' := .int .i64 0) (f' := .slice none 0 0)
              have Xa := XC.far6 (p := w.heap.size) (a := .int .i64 0) (b := .int .i64 0) (c' := .slice none 0 0) (d := .slice none 0 0) (e := .int .i64 0) (f := .slice none 0 0) (by omega) (by omega)
              have K2 := Lib.hid (keepS (Ra.below (bl_drew (Below.refl _ _))) Xa.drew)
              have Rb := Ra.put2 (x' := .int .i64 t.line) (y' := .int .i64 t.col)
              have Xb := (Xa.far (p := ⟨w.heap.size + 1, 0, none⟩) (by show _ ≠ w.heap.size + 1; omega) (by show _ ≠ w.heap.size + 1; omega) (.int .i64 t.line)).far (p := ⟨w.heap.size + 1, 1, none⟩) (by show _ ≠ w.heap.size + 1; omega) (by show _ ≠ w.heap.size + 1; omega) (.int .i64 t.col)
              have K3 := Lib.hid (keepS (Rb.below (bl_drew (Below.refl _ _))) Xb.drew)
              have RB := Lib.hid (Rb.below (bl_drew (Below.refl _ _))).bl
              clear F7 R7 XC Ra Xa Rb Xb bd
              have p_z : w.heap.size < V7.heap.size := B1.lt
              have p_c0 : V7.cell? ⟨w.heap.size, 0, none⟩ = some (.int .i64 0) := (B1.cell 0).trans rfl
              have p_f0 := B1.frozen 0
              have p_c1 : V7.cell? ⟨w.heap.size, 1, none⟩ = some (.int .i64 0) := (B1.cell 1).trans rfl
              have p_f1 := B1.frozen 1
              have p_c2 : V7.cell? ⟨w.heap.size, 2, none⟩ = some (.slice none 0 0) := (B1.cell 2).trans rfl
              have p_f2 := B1.frozen 2
              have p_c3 : V7.cell? ⟨w.heap.size, 3, none⟩ = some (.slice none 0 0) := (B1.cell 3).trans rfl
              have p_f3 := B1.frozen 3
              have p_c4 : V7.cell? ⟨w.heap.size, 4, none⟩ = some (.int .i64 0) := (B1.cell 4).trans rfl
              have p_f4 := B1.frozen 4
              have p_c5 : V7.cell? ⟨w.heap.size, 5, none⟩ = some (.slice none 0 0) := (B1.cell 5).trans rfl
              have p_f5 := B1.frozen 5
              have q_z : w.heap.size + 1 < V7.heap.size := B2.lt
              have q_c0 : V7.cell? ⟨w.heap.size + 1, 0, none⟩ = some (.int .i64 0) := (B2.cell 0).trans rfl
              have q_f0 := B2.frozen 0
              have q_c1 : V7.cell? ⟨w.heap.size + 1, 1, none⟩ = some (.int .i64 0) := (B2.cell 1).trans rfl
              have q_f1 := B2.frozen 1
              go_region_held3 (fun w' => w'.cell? ⟨w.heap.size + 1 + 1, 0, none⟩ = some (.int .i64 0) ∧ w'.cell? ⟨w.heap.size + 1 + 1, 1, none⟩ = some (.int .i64 0) ∧ w'.cell? ⟨w.heap.size + 1 + 1, 2, none⟩ = some (.slice none 0 0) ∧ w'.cell? ⟨w.heap.size + 1 + 1, 3, none⟩ = some (.slice none 0 0) ∧ w'.cell? ⟨w.heap.size + 1 + 1, 4, none⟩ = some (.int .i64 0) ∧ w'.cell? ⟨w.heap.size + 1 + 1, 5, none⟩ = some (.slice none 0 0) ∧ w'.cell? ⟨g, 0, none⟩ = some (.slice (some ⟨bb, 0, none⟩) L.length d) ∧ w'.cell? ⟨g, 1, none⟩ = some (.int .i64 (0 : Nat)) ∧ w'.cell? ⟨g, 2, none⟩ = some (.int .i64 4) ∧ w'.cell? ⟨bb, (0 : Nat) * 5 + 3, none⟩ = some (.int .i64 t.line) ∧ w'.cell? ⟨bb, (0 : Nat) * 5 + 4, none⟩ = some (.int .i64 t.col)) (first | with_reducible exact K1.out | with_reducible exact K2.out | with_reducible exact K3.out) (fail)
              go_wp2_with fail
              refine bodyPost_ret (v := .tuple #[.agg #[.int .i64 0, .int .i64 0, .slice none 0 0, .slice none 0 0, .int .i64 0, .slice none 0 0], .agg #[.int .i64 t.line, .int .i64 t.col], .int .i64 4]) (by simp [results, Tryd.results8, go_sem, p_z, q_z, p_f0, p_f1, p_f2, p_f3, p_f4, p_f5, q_f0, q_f1, p_c0, p_c1, p_c2, p_c3, p_c4, p_c5, q_c0, q_c1]) rfl ⟨RB.out, .inl ⟨t.line, t.col, 4, HT.out, rfl⟩⟩
            · have b3 : (t.kind != 3) = true := by simpa using hk
              have HT : Hid (T = .bad t.line t.col 4) := Lib.hid (by rw [← HH.out]; exact SB.out)
              clear SB hk
              go_wp2_with fail
              go_quiet (fail)
              have bq := bl_drewN (Below.refl V6.heap.size V6) nq
              have F7 := F6.below bq
              have R7 := R6.below bq
              have X7 := X6.below bq
              have O7 := O6.below bq
              clear F6 R6 X6 O6 BS s_z s_c0 s_f0 s_c1 s_f1 s_c2 s_f2 y0 y1 y2 y3 y4 bq i0 i1 ic
              generalize V6.drewN nq = V7 at F7 R7 X7 O7 ⊢
              go_wp2_with fail
              refine (ffail_any F7 4).mono ?_; rintro e V8 ⟨rfl, hG8, F8⟩
              rw [if_neg (by decide)] at F8
              have R8 := R7.gr hG8 (by omega)
              clear F7 R7 X7 O7 hG8
              have BS := F8.box
              have s_z : g < V8.heap.size := BS.lt
              have s_c0 : V8.cell? ⟨g, 0, none⟩ = some (.slice (some ⟨bb, 0, none⟩) L.length d) := (BS.cell 0).trans rfl
              have s_f0 := BS.frozen 0
              have s_c1 : V8.cell? ⟨g, 1, none⟩ = some (.int .i64 (0 : Nat)) := (BS.cell 1).trans rfl
              have s_f1 := BS.frozen 1
              have s_c2 : V8.cell? ⟨g, 2, none⟩ = some (.int .i64 4) := (BS.cell 2).trans rfl
              have s_f2 := BS.frozen 2
              go_wp2_with fail
              clear BS s_z s_c0 s_f0 s_c1 s_f1 s_c2 s_f2
              have XC := CelR.of F8 HH.out
              have j0 : (0 : Int) ≤ (0 : Nat) := by omega
              have j1 : ((0 : Nat) : Int) < L.length := by have := F8.lt; omega
              have jc := F8.cap
              have B1 := R8.b1
              have B2 := R8.b2
              have bd := bl_drew (Below.refl _ V8)
              have K1 := Lib.hid (keepS (R8.below bd) XC.drew)
              have Ra := R8.put1 (a' := .int .i64 0) (b' := .int .i64 0) (c' := .slice none 0 0) (d' := .slice none 0 0) (e' := .int .i64 0) (f' := .slice none 0 0)
              have Xa := XC.far6 (p := w.heap.size) (a := .int .i64 0) (b := .int .i64 0) (c' := .slice none 0 0) (d := .slice none 0 0) (e := .int .i64 0) (f := .slice none 0 0) (by omega) (by omega)
              have K2 := Lib.hid (keepS (Ra.below (bl_drew (Below.refl _ _))) Xa.drew)
              have Rb := Ra.put2 (x' := .int .i64 t.line) (y' := .int .i64 t.col)
              have Xb := (Xa.far (p := ⟨w.heap.size + 1, 0, none⟩) (by show _ ≠ w.heap.size + 1; omega) (by show _ ≠ w.heap.size + 1; omega) (.int .i64 t.line)).far (p := ⟨w.heap.size + 1, 1, none⟩) (by show _ ≠ w.heap.size + 1; omega) (by show _ ≠ w.heap.size + 1; omega) (.int .i64 t.col)
              have K3 := Lib.hid (keepS (Rb.below (bl_drew (Below.refl _ _))) Xb.drew)
              have RB := Lib.hid (Rb.below (bl_drew (Below.refl _ _))).bl
              clear F8 R8 XC Ra Xa Rb Xb bd
              have p_z : w.heap.size < V8.heap.size := B1.lt
              have p_c0 : V8.cell? ⟨w.heap.size, 0, none⟩ = some (.int .i64 0) := (B1.cell 0).trans rfl
              have p_f0 := B1.frozen 0
              have p_c1 : V8.cell? ⟨w.heap.size, 1, none⟩ = some (.int .i64 0) := (B1.cell 1).trans rfl
              have p_f1 := B1.frozen 1
              have p_c2 : V8.cell? ⟨w.heap.size, 2, none⟩ = some (.slice none 0 0) := (B1.cell 2).trans rfl
              have p_f2 := B1.frozen 2
              have p_c3 : V8.cell? ⟨w.heap.size, 3, none⟩ = some (.slice none 0 0) := (B1.cell 3).trans rfl
              have p_f3 := B1.frozen 3
              have p_c4 : V8.cell? ⟨w.heap.size, 4, none⟩ = some (.int .i64 0) := (B1.cell 4).trans rfl
              have p_f4 := B1.frozen 4
              have p_c5 : V8.cell? ⟨w.heap.size, 5, none⟩ = some (.slice none 0 0) := (B1.cell 5).trans rfl
              have p_f5 := B1.frozen 5
              have q_z : w.heap.size + 1 < V8.heap.size := B2.lt
              have q_c0 : V8.cell? ⟨w.heap.size + 1, 0, none⟩ = some (.int .i64 0) := (B2.cell 0).trans rfl
              have q_f0 := B2.frozen 0
              have q_c1 : V8.cell? ⟨w.heap.size + 1, 1, none⟩ = some (.int .i64 0) := (B2.cell 1).trans rfl
              have q_f1 := B2.frozen 1
              go_region_held3 (fun w' => w'.cell? ⟨w.heap.size + 1 + 1, 0, none⟩ = some (.int .i64 0) ∧ w'.cell? ⟨w.heap.size + 1 + 1, 1, none⟩ = some (.int .i64 0) ∧ w'.cell? ⟨w.heap.size + 1 + 1, 2, none⟩ = some (.slice none 0 0) ∧ w'.cell? ⟨w.heap.size + 1 + 1, 3, none⟩ = some (.slice none 0 0) ∧ w'.cell? ⟨w.heap.size + 1 + 1, 4, none⟩ = some (.int .i64 0) ∧ w'.cell? ⟨w.heap.size + 1 + 1, 5, none⟩ = some (.slice none 0 0) ∧ w'.cell? ⟨g, 0, none⟩ = some (.slice (some ⟨bb, 0, none⟩) L.length d) ∧ w'.cell? ⟨g, 1, none⟩ = some (.int .i64 (0 : Nat)) ∧ w'.cell? ⟨g, 2, none⟩ = some (.int .i64 4) ∧ w'.cell? ⟨bb, (0 : Nat) * 5 + 3, none⟩ = some (.int .i64 t.line) ∧ w'.cell? ⟨bb, (0 : Nat) * 5 + 4, none⟩ = some (.int .i64 t.col)) (first | with_reducible exact K1.out | with_reducible exact K2.out | with_reducible exact K3.out) (fail)
              go_wp2_with fail
              refine bodyPost_ret (v := .tuple #[.agg #[.int .i64 0, .int .i64 0, .slice none 0 0, .slice none 0 0, .int .i64 0, .slice none 0 0], .agg #[.int .i64 t.line, .int .i64 t.col], .int .i64 4]) (by simp [results, Tryd.results8, go_sem, p_z, q_z, p_f0, p_f1, p_f2, p_f3, p_f4, p_f5, q_f0, q_f1, p_c0, p_c1, p_c2, p_c3, p_c4, p_c5, q_c0, q_c1]) rfl ⟨RB.out, .inl ⟨t.line, t.col, 4, HT.out, rfl⟩⟩
end Go.Proofs.YtklomjpnmmaogaaDoor
