/- The walk of read: what is panicked is caught. -/
import Derived.Test.YtklomjpnmmaogaaDoorPJ
import Derived.Recover
import Derived.Tactics2
namespace Go.Proofs.YtklomjpnmmaogaaDoor
open Go Go.RowKit
set_option linter.unusedVariables false
set_option linter.unusedSimpArgs false
set_option maxRecDepth 100000

section
variable {w V : World} {g p q r : Nat}
/-- The three results, as read keeps them. -/
structure ResR (w V : World) (g p q r : Nat) (a b c' d e f x y z : Value) : Prop where
  gr : Gr w g V
  b1 : Blk V p 27 #[a, b, c', d, e, f]
  b2 : Blk V q 29 #[x, y]
  b3 : Blk V r 30 #[z]
  l1 : w.heap.size ≤ p
  l2 : p < q
  l3 : q < r
theorem ResR.below {W : World} {a b c' d e f x y z : Value} (h : ResR w V g p q r a b c' d e f x y z) (hb : Below V.heap.size V W) : ResR w W g p q r a b c' d e f x y z := ⟨h.gr.below hb, h.b1.below hb, h.b2.below hb, h.b3.below hb, h.l1, h.l2, h.l3⟩
theorem ResR.put1 {a b c' d e f x y z a' b' c2 d' e' f' : Value} (h : ResR w V g p q r a b c' d e f x y z) : ResR w ((((((V.setCell ⟨p, 0, none⟩ a').setCell ⟨p, 1, none⟩ b').setCell ⟨p, 2, none⟩ c2).setCell ⟨p, 3, none⟩ d').setCell ⟨p, 4, none⟩ e').setCell ⟨p, 5, none⟩ f') g p q r a' b' c2 d' e' f' x y z := by
  have h1 := h.l2
  have h2 := h.l3
  have n2 : q ≠ p := by omega
  have n3 : r ≠ p := by omega
  exact ⟨h.gr.res6 h.l1 _ _ _ _ _ _, (((((h.b1.put 0 a' rfl).put 1 b' rfl).put 2 c2 rfl).put 3 d' rfl).put 4 e' rfl).put 5 f' rfl,
    (((((h.b2.far (p := ⟨p, 0, none⟩) n2 _).far (p := ⟨p, 1, none⟩) n2 _).far (p := ⟨p, 2, none⟩) n2 _).far (p := ⟨p, 3, none⟩) n2 _).far (p := ⟨p, 4, none⟩) n2 _).far (p := ⟨p, 5, none⟩) n2 _,
    (((((h.b3.far (p := ⟨p, 0, none⟩) n3 _).far (p := ⟨p, 1, none⟩) n3 _).far (p := ⟨p, 2, none⟩) n3 _).far (p := ⟨p, 3, none⟩) n3 _).far (p := ⟨p, 4, none⟩) n3 _).far (p := ⟨p, 5, none⟩) n3 _, h.l1, h.l2, h.l3⟩
theorem ResR.put2 {a b c' d e f x y z x' y' : Value} (h : ResR w V g p q r a b c' d e f x y z) : ResR w ((V.setCell ⟨q, 0, none⟩ x').setCell ⟨q, 1, none⟩ y') g p q r a b c' d e f x' y' z := by
  have h0 := h.l1
  have h1 := h.l2
  have h2 := h.l3
  have n1 : p ≠ q := by omega
  have n3 : r ≠ q := by omega
  have hx : w.heap.size ≤ q := by omega
  exact ⟨(h.gr.set (p := ⟨q, 0, none⟩) (.inr hx) _).set (p := ⟨q, 1, none⟩) (.inr hx) _, (h.b1.far (p := ⟨q, 0, none⟩) n1 _).far (p := ⟨q, 1, none⟩) n1 _, (h.b2.put 0 x' rfl).put 1 y' rfl, (h.b3.far (p := ⟨q, 0, none⟩) n3 _).far (p := ⟨q, 1, none⟩) n3 _, h.l1, h.l2, h.l3⟩
theorem ResR.put3 {a b c' d e f x y z z' : Value} (h : ResR w V g p q r a b c' d e f x y z) : ResR w (V.setCell ⟨r, 0, none⟩ z') g p q r a b c' d e f x y z' := by
  have h0 := h.l1
  have h1 := h.l2
  have h2 := h.l3
  have n1 : p ≠ r := by omega
  have n2 : q ≠ r := by omega
  have hx : w.heap.size ≤ r := by omega
  exact ⟨h.gr.set (p := ⟨r, 0, none⟩) (.inr hx) _, h.b1.far (p := ⟨r, 0, none⟩) n1 _, h.b2.far (p := ⟨r, 0, none⟩) n2 _, h.b3.put 0 z' rfl, h.l1, h.l2, h.l3⟩
theorem Blk.far6 {t : TypeId} {cs : Array Value} {y : Nat} {a b c' d e f : Value} (h : Blk V y t cs) (hne : y ≠ p) : Blk ((((((V.setCell ⟨p, 0, none⟩ a).setCell ⟨p, 1, none⟩ b).setCell ⟨p, 2, none⟩ c').setCell ⟨p, 3, none⟩ d).setCell ⟨p, 4, none⟩ e).setCell ⟨p, 5, none⟩ f) y t cs :=
  (((((h.far (p := ⟨p, 0, none⟩) hne _).far (p := ⟨p, 1, none⟩) hne _).far (p := ⟨p, 2, none⟩) hne _).far (p := ⟨p, 3, none⟩) hne _).far (p := ⟨p, 4, none⟩) hne _).far (p := ⟨p, 5, none⟩) hne _
set_option maxHeartbeats 6400000 in
theorem catch_pan (a b : Nat) (er : Int) (older : List PanicEntry) {c0 c1 c2 c3 c4 c5 c6 c7 c8 : Value} (h : ResR w V g p q r c0 c1 c2 c3 c4 c5 c6 c7 c8) : CallsD Tryd.prog 52 #[.pointer (some ⟨p, 0, none⟩), .pointer (some ⟨q, 0, none⟩), .pointer (some ⟨r, 0, none⟩)] (.panicking ({ v := .iface 118 (.agg #[.int .i64 a, .int .i64 b, .int .i64 er]), recovered := false } :: older)) V fun e u' w' =>
      e = .returned (.tuple #[]) ∧ u' = .panicking ({ v := .iface 118 (.agg #[.int .i64 a, .int .i64 b, .int .i64 er]), recovered := true } :: older) ∧ ResR w w' g p q r (.int .i64 0) (.int .i64 0) (.slice none 0 0) (.slice none 0 0) (.int .i64 0) (.slice none 0 0) (.int .i64 a) (.int .i64 b) (.int .i64 er) := by
  refine callsD_of_wpS Tryd.func52 rfl fun c₀ cs hu => ?_
  apply wpS_seq
  apply wpS_region
  simp [wpOpsS, go_sem, recoverD, hu, Tryd.ntmps52, Exit.thenS]
  show Code.wpS _ _ _ { tmps := #[.pointer (some ⟨p, 0, none⟩), .pointer (some ⟨q, 0, none⟩), .pointer (some ⟨r, 0, none⟩), (.iface 118 (.agg #[.int .i64 a, .int .i64 b, .int .i64 er])), undef, (.iface 118 (.agg #[.int .i64 a, .int .i64 b, .int .i64 er])), undef, undef, undef, undef, undef, undef, undef, undef, undef], defers := [] } _ _
  refine wpS_of_wp ?_
  have hta : ∀ v w ty, (Instr.typeAssert (.iface 118 v) ty 118 false).run Tryd.prog w = .ok v w := fun _ _ _ => by rfl
  have h1 := h.below (bl_alloc (Below.refl _ _) (.cells #[.int .i64 a, .int .i64 b, .int .i64 er] 118))
  have YB : Blk (V.alloc (.cells #[.int .i64 a, .int .i64 b, .int .i64 er] 118)) V.heap.size 118 #[.int .i64 a, .int .i64 b, .int .i64 er] := Blk.new _ _ _
  go_wp2_with fail
  have hy1 := h.b3.lt
  have hy2 := h.l3
  have hy3 := h.l2
  generalize V.alloc (.cells #[.int .i64 a, .int .i64 b, .int .i64 er] 118) = U at h1 YB ⊢
  generalize V.heap.size = y at YB hy1 ⊢
  clear h hta
  have y1 : y ≠ p := by omega
  have y2 : y ≠ q := by omega
  refine wp_region_pre (S := fun w' => w'.cell? ⟨y, 0, none⟩ = some (.int .i64 a) ∧ w'.cell? ⟨y, 1, none⟩ = some (.int .i64 b) ∧ w'.cell? ⟨y, 2, none⟩ = some (.int .i64 er)) 7 (by kernel_rfl) (by kernel_rfl) ?_ (fun hH0 => ?_)
  · exact ⟨((YB.below (bl_drew (Below.refl _ _))).cell 0).trans rfl, ((YB.below (bl_drew (Below.refl _ _))).cell 1).trans rfl, ((YB.below (bl_drew (Below.refl _ _))).cell 2).trans rfl⟩
  refine PreG.take (i := 0) (v := ?vv1) rfl (by kernel_rfl) (by kernel_rfl) (fun _ _ _ h => h) (Or.inl ⟨by rfl, ?hy1⟩) (by assumption) ?rest1
  case hy1 => intro w hSw; (try dsimp only at hSw); first | (go_simp; done) | (go_simp; with_reducible rfl)
  try simp only [Act.put, List.getElem_toArray, List.getElem_cons_zero, List.getElem_cons_succ, List.setIfInBounds_toArray, List.set_cons_zero, List.set_cons_succ]
  refine PreG.take (i := 1) (v := ?vv2) rfl (by kernel_rfl) (by kernel_rfl) (fun _ _ _ h => h) (Or.inl ⟨by rfl, ?hy2⟩) (by assumption) ?rest2
  case hy2 => intro w hSw; (try dsimp only at hSw); first | (go_simp; done) | (go_simp; with_reducible rfl)
  try simp only [Act.put, List.getElem_toArray, List.getElem_cons_zero, List.getElem_cons_succ, List.setIfInBounds_toArray, List.set_cons_zero, List.set_cons_succ]
  refine PreG.take (i := 2) (v := ?vv3) rfl (by kernel_rfl) (by kernel_rfl) (fun _ _ _ h => h) (Or.inl ⟨by rfl, ?hy3⟩) (by assumption) ?rest3
  case hy3 => intro w hSw; (try dsimp only at hSw); first | (go_simp; done) | (go_simp; with_reducible rfl)
  try simp only [Act.put, List.getElem_toArray, List.getElem_cons_zero, List.getElem_cons_succ, List.setIfInBounds_toArray, List.set_cons_zero, List.set_cons_succ]
  refine PreG.take (i := 3) (v := ?vv4) rfl (by kernel_rfl) (by kernel_rfl) (fun _ _ _ h => h) (Or.inl ⟨by rfl, ?hy4⟩) (by assumption) ?rest4
  case hy4 => intro w hSw; (try dsimp only at hSw); first | (go_simp; done) | (go_simp; with_reducible rfl)
  try simp only [Act.put, List.getElem_toArray, List.getElem_cons_zero, List.getElem_cons_succ, List.setIfInBounds_toArray, List.set_cons_zero, List.set_cons_succ]
  refine PreG.take (i := 4) (v := ?vv5) rfl (by kernel_rfl) (by kernel_rfl) (fun _ _ _ h => h) (Or.inl ⟨by rfl, ?hy5⟩) (by assumption) ?rest5
  case hy5 => intro w hSw; (try dsimp only at hSw); first | (go_simp; done) | (go_simp; with_reducible rfl)
  try simp only [Act.put, List.getElem_toArray, List.getElem_cons_zero, List.getElem_cons_succ, List.setIfInBounds_toArray, List.set_cons_zero, List.set_cons_succ]
  refine PreG.ready (rs := [5]) (by kernel_rfl) (by kernel_rfl) ?_
  refine AllPre.cons rfl (fun K hK => ?_) ?_
  · have H5 := h1.below (bl_drew (Below.refl _ _))
    have Y5 := YB.below (bl_drew (Below.refl _ _))
    clear h1 YB
    generalize U.drew = U5 at H5 Y5 ⊢
    have B5 := H5.b1
    have p_z : p < U5.heap.size := B5.lt
    have p_c0 : U5.cell? ⟨p, 0, none⟩ = some (c0) := (B5.cell 0).trans rfl
    have p_f0 := B5.frozen 0
    have p_c1 : U5.cell? ⟨p, 1, none⟩ = some (c1) := (B5.cell 1).trans rfl
    have p_f1 := B5.frozen 1
    have p_c2 : U5.cell? ⟨p, 2, none⟩ = some (c2) := (B5.cell 2).trans rfl
    have p_f2 := B5.frozen 2
    have p_c3 : U5.cell? ⟨p, 3, none⟩ = some (c3) := (B5.cell 3).trans rfl
    have p_f3 := B5.frozen 3
    have p_c4 : U5.cell? ⟨p, 4, none⟩ = some (c4) := (B5.cell 4).trans rfl
    have p_f4 := B5.frozen 4
    have p_c5 : U5.cell? ⟨p, 5, none⟩ = some (c5) := (B5.cell 5).trans rfl
    have p_f5 := B5.frozen 5
    go_simp
    have H6 := H5.put1 (a' := .int .i64 0) (b' := .int .i64 0) (c2 := .slice none 0 0) (d' := .slice none 0 0) (e' := .int .i64 0) (f' := .slice none 0 0)
    have Y6 := Y5.far6 (p := p) (a := .int .i64 0) (b := .int .i64 0) (c' := .slice none 0 0) (d := .slice none 0 0) (e := .int .i64 0) (f := .slice none 0 0) y1
    clear H5 Y5 B5 p_z p_c0 p_f0 p_c1 p_f1 p_c2 p_f2 p_c3 p_f3 p_c4 p_f4 p_c5 p_f5
    generalize ((((((U5).setCell ⟨p, 0, none⟩ (.int .i64 0)).setCell ⟨p, 1, none⟩ (.int .i64 0)).setCell ⟨p, 2, none⟩ (.slice none 0 0)).setCell ⟨p, 3, none⟩ (.slice none 0 0)).setCell ⟨p, 4, none⟩ (.int .i64 0)).setCell ⟨p, 5, none⟩ (.slice none 0 0) = U6 at H6 Y6 ⊢
    refine hK.out _ _ ?_ (fun hH1 => ?_)
    · exact ⟨(Y6.cell 0).trans rfl, (Y6.cell 1).trans rfl, (Y6.cell 2).trans rfl⟩
    clear hK K hH0
    try simp only [Act.put, List.getElem_toArray, List.getElem_cons_zero, List.getElem_cons_succ, List.setIfInBounds_toArray, List.set_cons_zero, List.set_cons_succ]
    refine PreG.ready (rs := [6]) (by kernel_rfl) (by kernel_rfl) ?_
    refine AllPre.cons rfl (fun K hK => ?_) ?_
    · have B6 := H6.b2
      have q_z : q < U6.heap.size := B6.lt
      have q_c0 : U6.cell? ⟨q, 0, none⟩ = some (c6) := (B6.cell 0).trans rfl
      have q_f0 := B6.frozen 0
      have q_c1 : U6.cell? ⟨q, 1, none⟩ = some (c7) := (B6.cell 1).trans rfl
      have q_f1 := B6.frozen 1
      go_simp
      have H7 := H6.put2 (x' := .int .i64 a) (y' := .int .i64 b)
      have Y7 := (Y6.far (p := ⟨q, 0, none⟩) y2 (.int .i64 a)).far (p := ⟨q, 1, none⟩) y2 (.int .i64 b)
      clear H6 Y6 B6 q_z q_c0 q_f0 q_c1 q_f1
      generalize ((U6).setCell ⟨q, 0, none⟩ (.int .i64 a)).setCell ⟨q, 1, none⟩ (.int .i64 b) = U7 at H7 Y7 ⊢
      refine hK.out _ _ ?_ (fun hH2 => ?_)
      · exact ⟨(Y7.cell 0).trans rfl, (Y7.cell 1).trans rfl, (Y7.cell 2).trans rfl⟩
      clear hK K hH1
      try simp only [Act.put, List.getElem_toArray, List.getElem_cons_zero, List.getElem_cons_succ, List.setIfInBounds_toArray, List.set_cons_zero, List.set_cons_succ]
      refine PreG.done (by kernel_rfl) ?_
      simp only [List.drop_succ_cons, List.drop_zero]
      clear hH2
      have B7 := H7.b3
      have r_z : r < U7.heap.size := B7.lt
      have r_c0 : U7.cell? ⟨r, 0, none⟩ = some (c8) := (B7.cell 0).trans rfl
      have r_f0 := B7.frozen 0
      go_wp2_with fail
      have H8 := H7.put3 (z' := .int .i64 er)
      simp [bodyPostS, results, Tryd.results52]
      exact H8
    exact AllPre.nil
  exact AllPre.nil
theorem catch_idle (V : World) : CallsD Tryd.prog 52 #[.pointer (some ⟨p, 0, none⟩), .pointer (some ⟨q, 0, none⟩), .pointer (some ⟨r, 0, none⟩)] .returning V fun e u' w' => e = .returned (.tuple #[]) ∧ u' = .returning ∧ w' = V := by
  refine callsD_of_wpS Tryd.func52 rfl fun c₀ cs hu => ?_
  apply wpS_seq
  apply wpS_region
  simp [wpOpsS, go_sem, recoverD, hu, Tryd.ntmps52, Exit.thenS]
  show Code.wpS _ _ _ { tmps := #[.pointer (some ⟨p, 0, none⟩), .pointer (some ⟨q, 0, none⟩), .pointer (some ⟨r, 0, none⟩), .nilIface, undef, .nilIface, undef, undef, undef, undef, undef, undef, undef, undef, undef], defers := [] } _ _
  refine wpS_of_wp ?_
  go_wp2_with fail
  cases c₀
  simp_all [bodyPostS, results, Tryd.results52]
theorem ResR.meth {W : World} {a b c' d e f x y z : Value} (h : ResR w V g p q r a b c' d e f x y z) (hG : Gr V g W) (hg : g < w.heap.size) : ResR w W g p q r a b c' d e f x y z := by
  have h1 := h.l1
  have h2 := h.l2
  have h3 := h.l3
  exact ⟨h.gr.step hG, h.b1.gr hG (by omega), h.b2.gr hG (by omega), h.b3.gr hG (by omega), h1, h2, h3⟩
end
def ReadPost (w : World) (g : Nat) (T : PR IData) (e : Ending) (w' : World) : Prop :=
  Gr w g w' ∧ ((∃ a b er, T = .bad a b er ∧ e = .returned (.tuple #[.agg #[.int .i64 0, .int .i64 0, .slice none 0 0, .slice none 0 0, .int .i64 0, .slice none 0 0], .agg #[.int .i64 (a : Nat), .int .i64 (b : Nat)], .int .i64 er])) ∨
    (∃ I rest D1 d1 D2 d2 D3 d3, T = .ok I rest ∧ e = .returned (.tuple #[.agg #[.int .i64 I.kind, .int .i64 I.cap, .slice D1 I.items.length d1, .slice D2 I.cost.length d2, .int .i64 I.size, .slice D3 I.sets.length d3], .agg #[.int .i64 0, .int .i64 0], .int .i64 0]) ∧ Own3 w' w.heap.size 82 80 I D1 d1 D2 d2 D3 d3))
set_option maxHeartbeats 6400000 in
theorem read_any {w : World} {g c at_ : Nat} {A : Option Addr} {L : List Tok} (h : Rd w g A c L at_) (hN : NamesW w) : Calls Tryd.prog 21 #[.pointer (some ⟨g, 0, none⟩)] w fun e w' => ReadPost w g (wholeP (L.drop at_)) e w' := by
  have hmf : ∀ (fn : Fn) (first cap : Array Value) (w : World), (Instr.makeFunc fn first cap).run Tryd.prog w = .ok (.func fn first cap) w := fun _ _ _ _ => rfl
  obtain ⟨T, hT⟩ : ∃ T, wholeP (L.drop at_) = T := ⟨_, rfl⟩
  rw [hT]
  have hgl := h.gl
  have b0 := bl_alloc (bl_alloc (bl_alloc (Below.refl w.heap.size w) (.cells #[.int .i64 0, .int .i64 0, .slice none 0 0, .slice none 0 0, .int .i64 0, .slice none 0 0] 27)) (.cells #[.int .i64 0, .int .i64 0] 29)) (.cells #[.int .i64 0] 30)
  have R0 : ResR w (((w.alloc (.cells #[.int .i64 0, .int .i64 0, .slice none 0 0, .slice none 0 0, .int .i64 0, .slice none 0 0] 27)).alloc (.cells #[.int .i64 0, .int .i64 0] 29)).alloc (.cells #[.int .i64 0] 30)) g w.heap.size (w.heap.size + 1) (w.heap.size + 1 + 1) (.int .i64 0) (.int .i64 0) (.slice none 0 0) (.slice none 0 0) (.int .i64 0) (.slice none 0 0) (.int .i64 0) (.int .i64 0) (.int .i64 0) :=
    ⟨Gr.of_below b0, ((Blk.new _ _ _).alloc _).alloc _, (Blk.new' (by simp) _ _).alloc _, Blk.new' (by simp) _ _, Nat.le_refl _, by omega, by omega⟩
  have HW := Lib.hid (whole_any (h.below b0) (hN.below b0))
  rw [hT] at HW
  clear h hN hT
  go_enter_defers Tryd.func21, Tryd.ntmps21
  go_wp2_with fail
  generalize ((w.alloc (.cells #[.int .i64 0, .int .i64 0, .slice none 0 0, .slice none 0 0, .int .i64 0, .slice none 0 0] 27)).alloc (.cells #[.int .i64 0, .int .i64 0] 29)).alloc (.cells #[.int .i64 0] 30) = W0 at R0 b0 HW ⊢
  refine HW.out.mono ?_; rintro e V ⟨hG, ⟨a, b, er, hp, rfl⟩ | ⟨I, n, hp, ⟨D1, d1, D2, d2, D3, d3, rfl, HO⟩, R⟩⟩
  · have R1 := R0.meth hG hgl
    clear HW R0 b0 hG
    unfold pan
    refine leaves_cons (f := 52) (args := #[.pointer (some ⟨w.heap.size, 0, none⟩), .pointer (some ⟨w.heap.size + 1, 0, none⟩), .pointer (some ⟨w.heap.size + 1 + 1, 0, none⟩)]) (by simp) (by simp [go_sem]) ?_
    refine (catch_pan a b er [] R1).mono ?_
    rintro e u' w'' ⟨rfl, rfl, R2⟩
    have B1 := R2.b1
    have B2 := R2.b2
    have B3 := R2.b3
    have p_z : w.heap.size < w''.heap.size := B1.lt
    have p_c0 : w''.cell? ⟨w.heap.size, 0, none⟩ = some (.int .i64 0) := (B1.cell 0).trans rfl
    have p_f0 := B1.frozen 0
    have p_c1 : w''.cell? ⟨w.heap.size, 1, none⟩ = some (.int .i64 0) := (B1.cell 1).trans rfl
    have p_f1 := B1.frozen 1
    have p_c2 : w''.cell? ⟨w.heap.size, 2, none⟩ = some (.slice none 0 0) := (B1.cell 2).trans rfl
    have p_f2 := B1.frozen 2
    have p_c3 : w''.cell? ⟨w.heap.size, 3, none⟩ = some (.slice none 0 0) := (B1.cell 3).trans rfl
    have p_f3 := B1.frozen 3
    have p_c4 : w''.cell? ⟨w.heap.size, 4, none⟩ = some (.int .i64 0) := (B1.cell 4).trans rfl
    have p_f4 := B1.frozen 4
    have p_c5 : w''.cell? ⟨w.heap.size, 5, none⟩ = some (.slice none 0 0) := (B1.cell 5).trans rfl
    have p_f5 := B1.frozen 5
    have q_z : w.heap.size + 1 < w''.heap.size := B2.lt
    have q_c0 : w''.cell? ⟨w.heap.size + 1, 0, none⟩ = some (.int .i64 a) := (B2.cell 0).trans rfl
    have q_f0 := B2.frozen 0
    have q_c1 : w''.cell? ⟨w.heap.size + 1, 1, none⟩ = some (.int .i64 b) := (B2.cell 1).trans rfl
    have q_f1 := B2.frozen 1
    have r_z : w.heap.size + 1 + 1 < w''.heap.size := B3.lt
    have r_c0 : w''.cell? ⟨w.heap.size + 1 + 1, 0, none⟩ = some (.int .i64 er) := (B3.cell 0).trans rfl
    have r_f0 := B3.frozen 0
    simp [Leaves, settle, results, Tryd.results21, go_sem, p_c0, p_c1, p_c2, p_c3, p_c4, p_c5, q_c0, q_c1, r_c0, p_f0, p_f1, p_f2, p_f3, p_f4, p_f5, q_f0, q_f1, r_f0, p_z, q_z, r_z]
    exact ⟨R2.gr, .inl ⟨_, _, _, hp, rfl⟩⟩
  · have R1 := R0.meth hG hgl
    have hsz : w.heap.size + 1 + 1 < W0.heap.size := R0.b3.lt
    have O1 := HO.more (base' := w.heap.size + 1 + 1 + 1) (by omega)
    clear HW R0 b0 hG HO
    have B1 := R1.b1
    have B2 := R1.b2
    have B3 := R1.b3
    have p_z : w.heap.size < V.heap.size := B1.lt
    have p_c0 : V.cell? ⟨w.heap.size, 0, none⟩ = some (.int .i64 0) := (B1.cell 0).trans rfl
    have p_f0 := B1.frozen 0
    have p_c1 : V.cell? ⟨w.heap.size, 1, none⟩ = some (.int .i64 0) := (B1.cell 1).trans rfl
    have p_f1 := B1.frozen 1
    have p_c2 : V.cell? ⟨w.heap.size, 2, none⟩ = some (.slice none 0 0) := (B1.cell 2).trans rfl
    have p_f2 := B1.frozen 2
    have p_c3 : V.cell? ⟨w.heap.size, 3, none⟩ = some (.slice none 0 0) := (B1.cell 3).trans rfl
    have p_f3 := B1.frozen 3
    have p_c4 : V.cell? ⟨w.heap.size, 4, none⟩ = some (.int .i64 0) := (B1.cell 4).trans rfl
    have p_f4 := B1.frozen 4
    have p_c5 : V.cell? ⟨w.heap.size, 5, none⟩ = some (.slice none 0 0) := (B1.cell 5).trans rfl
    have p_f5 := B1.frozen 5
    have q_z : w.heap.size + 1 < V.heap.size := B2.lt
    have q_c0 : V.cell? ⟨w.heap.size + 1, 0, none⟩ = some (.int .i64 0) := (B2.cell 0).trans rfl
    have q_f0 := B2.frozen 0
    have q_c1 : V.cell? ⟨w.heap.size + 1, 1, none⟩ = some (.int .i64 0) := (B2.cell 1).trans rfl
    have q_f1 := B2.frozen 1
    have r_z : w.heap.size + 1 + 1 < V.heap.size := B3.lt
    have r_c0 : V.cell? ⟨w.heap.size + 1 + 1, 0, none⟩ = some (.int .i64 0) := (B3.cell 0).trans rfl
    have r_f0 := B3.frozen 0
    go_wp2_with fail
    clear p_z q_z r_z p_c0 p_c1 p_c2 p_c3 p_c4 p_c5 q_c0 q_c1 r_c0 p_f0 p_f1 p_f2 p_f3 p_f4 p_f5 q_f0 q_f1 r_f0 B1 B2 B3
    have R2 := ((R1.put1 (a' := .int .i64 I.kind) (b' := .int .i64 I.cap) (c2 := .slice D1 I.items.length d1) (d' := .slice D2 I.cost.length d2) (e' := .int .i64 I.size) (f' := .slice D3 I.sets.length d3)).put2 (x' := .int .i64 0) (y' := .int .i64 0)).put3 (z' := .int .i64 0)
    have O2 := (((O1.res6 (r := w.heap.size) (by omega) (.int .i64 I.kind) (.int .i64 I.cap) (.slice D1 I.items.length d1) (.slice D2 I.cost.length d2) (.int .i64 I.size) (.slice D3 I.sets.length d3)).set (p := ⟨w.heap.size + 1, 0, none⟩) (Nat.lt_succ_of_lt (Nat.lt_succ_self _)) (.int .i64 0)).set (p := ⟨w.heap.size + 1, 1, none⟩) (Nat.lt_succ_of_lt (Nat.lt_succ_self _)) (.int .i64 0)).set (p := ⟨w.heap.size + 1 + 1, 0, none⟩) (Nat.lt_succ_self _) (.int .i64 0)
    clear R1 O1
    generalize (((((((((V).setCell ⟨w.heap.size, 0, none⟩ (.int .i64 I.kind)).setCell ⟨w.heap.size, 1, none⟩ (.int .i64 I.cap)).setCell ⟨w.heap.size, 2, none⟩ (.slice D1 I.items.length d1)).setCell ⟨w.heap.size, 3, none⟩ (.slice D2 I.cost.length d2)).setCell ⟨w.heap.size, 4, none⟩ (.int .i64 I.size)).setCell ⟨w.heap.size, 5, none⟩ (.slice D3 I.sets.length d3)).setCell ⟨w.heap.size + 1, 0, none⟩ (.int .i64 0)).setCell ⟨w.heap.size + 1, 1, none⟩ (.int .i64 0)).setCell ⟨w.heap.size + 1 + 1, 0, none⟩ (.int .i64 0) = V2 at R2 O2 ⊢
    refine leaves_cons (f := 52) (args := #[.pointer (some ⟨w.heap.size, 0, none⟩), .pointer (some ⟨w.heap.size + 1, 0, none⟩), .pointer (some ⟨w.heap.size + 1 + 1, 0, none⟩)]) (by simp) (by simp [go_sem]) ?_
    refine (catch_idle _).mono ?_
    rintro e u' w'' ⟨rfl, rfl, rfl⟩
    have B1 := R2.b1
    have B2 := R2.b2
    have B3 := R2.b3
    have p_z : w.heap.size < w''.heap.size := B1.lt
    have p_c0 : w''.cell? ⟨w.heap.size, 0, none⟩ = some (.int .i64 I.kind) := (B1.cell 0).trans rfl
    have p_f0 := B1.frozen 0
    have p_c1 : w''.cell? ⟨w.heap.size, 1, none⟩ = some (.int .i64 I.cap) := (B1.cell 1).trans rfl
    have p_f1 := B1.frozen 1
    have p_c2 : w''.cell? ⟨w.heap.size, 2, none⟩ = some (.slice D1 I.items.length d1) := (B1.cell 2).trans rfl
    have p_f2 := B1.frozen 2
    have p_c3 : w''.cell? ⟨w.heap.size, 3, none⟩ = some (.slice D2 I.cost.length d2) := (B1.cell 3).trans rfl
    have p_f3 := B1.frozen 3
    have p_c4 : w''.cell? ⟨w.heap.size, 4, none⟩ = some (.int .i64 I.size) := (B1.cell 4).trans rfl
    have p_f4 := B1.frozen 4
    have p_c5 : w''.cell? ⟨w.heap.size, 5, none⟩ = some (.slice D3 I.sets.length d3) := (B1.cell 5).trans rfl
    have p_f5 := B1.frozen 5
    have q_z : w.heap.size + 1 < w''.heap.size := B2.lt
    have q_c0 : w''.cell? ⟨w.heap.size + 1, 0, none⟩ = some (.int .i64 0) := (B2.cell 0).trans rfl
    have q_f0 := B2.frozen 0
    have q_c1 : w''.cell? ⟨w.heap.size + 1, 1, none⟩ = some (.int .i64 0) := (B2.cell 1).trans rfl
    have q_f1 := B2.frozen 1
    have r_z : w.heap.size + 1 + 1 < w''.heap.size := B3.lt
    have r_c0 : w''.cell? ⟨w.heap.size + 1 + 1, 0, none⟩ = some (.int .i64 0) := (B3.cell 0).trans rfl
    have r_f0 := B3.frozen 0
    simp [Leaves, settle, results, Tryd.results21, go_sem, p_c0, p_c1, p_c2, p_c3, p_c4, p_c5, q_c0, q_c1, r_c0, p_f0, p_f1, p_f2, p_f3, p_f4, p_f5, q_f0, q_f1, r_f0, p_z, q_z, r_z]
    exact ⟨R2.gr, .inr ⟨I, _, D1, d1, D2, d2, D3, d3, hp, rfl, O2.more (by omega)⟩⟩
end Go.Proofs.YtklomjpnmmaogaaDoor
