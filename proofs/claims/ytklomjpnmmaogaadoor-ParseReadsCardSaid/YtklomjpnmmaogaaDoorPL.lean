/- The walk of Parse. -/
import Derived.Test.YtklomjpnmmaogaaDoorPK
import Derived.Test.YtklomjpnmmaogaaDoorPB
import Derived.Test.YtklomjpnmmaogaaDoorLH
namespace Go.Proofs.YtklomjpnmmaogaaDoor
open Go Go.RowKit
set_option linter.unusedVariables false
set_option linter.unusedSimpArgs false
set_option maxRecDepth 100000

theorem bl_res6 {w W : World} {p : Nat} (h : Below w.heap.size w W) (hp : w.heap.size ≤ p) (a b c' d e f : Value) : Below w.heap.size w ((((((W.setCell ⟨p, 0, none⟩ a).setCell ⟨p, 1, none⟩ b).setCell ⟨p, 2, none⟩ c').setCell ⟨p, 3, none⟩ d).setCell ⟨p, 4, none⟩ e).setCell ⟨p, 5, none⟩ f) :=
  bl_set (bl_set (bl_set (bl_set (bl_set (bl_set h (p := ⟨p, 0, none⟩) hp _) (p := ⟨p, 1, none⟩) hp _) (p := ⟨p, 2, none⟩) hp _) (p := ⟨p, 3, none⟩) hp _) (p := ⟨p, 4, none⟩) hp _) (p := ⟨p, 5, none⟩) hp _
theorem Blk.put6 {V : World} {p : Nat} {t : TypeId} {a b c' d e f a' b' c2 d' e' f' : Value} (h : Blk V p t #[a, b, c', d, e, f]) : Blk ((((((V.setCell ⟨p, 0, none⟩ a').setCell ⟨p, 1, none⟩ b').setCell ⟨p, 2, none⟩ c2).setCell ⟨p, 3, none⟩ d').setCell ⟨p, 4, none⟩ e').setCell ⟨p, 5, none⟩ f') p t #[a', b', c2, d', e', f'] :=
  (((((h.put 0 a' rfl).put 1 b' rfl).put 2 c2 rfl).put 3 d' rfl).put 4 e' rfl).put 5 f' rfl
/-- The variables of Parse. -/
structure PaR (w V : World) (y : Nat) (c0 c1 c2 c3 c4 c5 x0 x1 a b : Value) : Prop where
  bl : Below w.heap.size w V
  b1 : Blk V w.heap.size 27 #[c0, c1, c2, c3, c4, c5]
  b2 : Blk V (w.heap.size + 1) 29 #[x0, x1]
  by_ : Blk V y 29 #[a, b]
  hy : w.heap.size + 1 < y
section
variable {w V W : World} {y : Nat} {c0 c1 c2 c3 c4 c5 x0 x1 a b : Value}
theorem PaR.below (h : PaR w V y c0 c1 c2 c3 c4 c5 x0 x1 a b) (hb : Below V.heap.size V W) : PaR w W y c0 c1 c2 c3 c4 c5 x0 x1 a b := ⟨bl_step h.bl hb, h.b1.below hb, h.b2.below hb, h.by_.below hb, h.hy⟩
theorem PaR.put1 {a' b' c' d' e' f' : Value} (h : PaR w V y c0 c1 c2 c3 c4 c5 x0 x1 a b) : PaR w ((((((V.setCell ⟨w.heap.size, 0, none⟩ a').setCell ⟨w.heap.size, 1, none⟩ b').setCell ⟨w.heap.size, 2, none⟩ c').setCell ⟨w.heap.size, 3, none⟩ d').setCell ⟨w.heap.size, 4, none⟩ e').setCell ⟨w.heap.size, 5, none⟩ f') y a' b' c' d' e' f' x0 x1 a b := by
  have hy := h.hy
  exact ⟨bl_res6 h.bl (Nat.le_refl _) _ _ _ _ _ _, h.b1.put6, h.b2.far6 (by omega), h.by_.far6 (by omega), hy⟩
theorem PaR.put2 {x' y' : Value} (h : PaR w V y c0 c1 c2 c3 c4 c5 x0 x1 a b) : PaR w ((V.setCell ⟨w.heap.size + 1, 0, none⟩ x').setCell ⟨w.heap.size + 1, 1, none⟩ y') y c0 c1 c2 c3 c4 c5 x' y' a b := by
  have hy := h.hy
  have n1 : w.heap.size ≠ w.heap.size + 1 := by omega
  have n2 : y ≠ w.heap.size + 1 := by omega
  exact ⟨bl_set (bl_set h.bl (p := ⟨w.heap.size + 1, 0, none⟩) (Nat.le_succ _) _) (p := ⟨w.heap.size + 1, 1, none⟩) (Nat.le_succ _) _, (h.b1.far (p := ⟨w.heap.size + 1, 0, none⟩) n1 _).far (p := ⟨w.heap.size + 1, 1, none⟩) n1 _, (h.b2.put 0 x' rfl).put 1 y' rfl, (h.by_.far (p := ⟨w.heap.size + 1, 0, none⟩) n2 _).far (p := ⟨w.heap.size + 1, 1, none⟩) n2 _, hy⟩
theorem PaR.gr (h : PaR w V y c0 c1 c2 c3 c4 c5 x0 x1 a b) {g : Nat} (hg : y < g) (k : Gr V g W) : PaR w W y c0 c1 c2 c3 c4 c5 x0 x1 a b := by
  have hy := h.hy
  exact ⟨bl_grown h.bl k.out (fun j hj => by injection hj with hj; omega), h.b1.gr k (by omega), h.b2.gr k (by omega), h.by_.gr k (by omega), hy⟩
end
/-- What Parse hands back. -/
def ParsePost (w : World) (T : PT) (e : Ending) (w' : World) : Prop :=
  Below w.heap.size w w' ∧ ((∃ a b er, T = .bad a b er ∧ e = .returned (.tuple #[.agg #[.int .i64 0, .int .i64 0, .slice none 0 0, .slice none 0 0, .int .i64 0, .slice none 0 0], .agg #[.int .i64 (a : Nat), .int .i64 (b : Nat)], .int .i64 er])) ∨
    (∃ I D1 d1 D2 d2 D3 d3, T = .ok I ∧ e = .returned (.tuple #[.agg #[.int .i64 I.kind, .int .i64 I.cap, .slice D1 I.items.length d1, .slice D2 I.cost.length d2, .int .i64 I.size, .slice D3 I.sets.length d3], .agg #[.int .i64 0, .int .i64 0], .int .i64 0]) ∧ Own3 w' w.heap.size 82 80 I D1 d1 D2 d2 D3 d3))
set_option maxHeartbeats 6400000 in
theorem parse_any (s : ByteArray) (w : World) (hw : LexW w) (hN : NamesW w) : Calls Tryd.prog 7 #[.string s] w fun e w' => ParsePost w (parseT s.data.toList) e w' := by
  obtain ⟨T, hT⟩ : ∃ T, parseT s.data.toList = T := ⟨_, rfl⟩
  rw [hT]
  unfold parseT at hT
  have b0 := bl_alloc (bl_alloc (Below.refl w.heap.size w) (.cells #[.int .i64 0, .int .i64 0, .slice none 0 0, .slice none 0 0, .int .i64 0, .slice none 0 0] 27)) (.cells #[.int .i64 0, .int .i64 0] 29)
  have P1 : Blk ((w.alloc (.cells #[.int .i64 0, .int .i64 0, .slice none 0 0, .slice none 0 0, .int .i64 0, .slice none 0 0] 27)).alloc (.cells #[.int .i64 0, .int .i64 0] 29)) w.heap.size 27 #[.int .i64 0, .int .i64 0, .slice none 0 0, .slice none 0 0, .int .i64 0, .slice none 0 0] := (Blk.new _ _ _).alloc _
  have P2 : Blk ((w.alloc (.cells #[.int .i64 0, .int .i64 0, .slice none 0 0, .slice none 0 0, .int .i64 0, .slice none 0 0] 27)).alloc (.cells #[.int .i64 0, .int .i64 0] 29)) (w.heap.size + 1) 29 #[.int .i64 0, .int .i64 0] := Blk.new' (by simp) _ _
  have HL := Lib.hid (lex_any s _ (hw.below b0))
  have N0 := hN.below b0
  clear hw hN
  go_enter Tryd.func7, Tryd.ntmps7
  go_wp2_with fail
  generalize (w.alloc (.cells #[.int .i64 0, .int .i64 0, .slice none 0 0, .slice none 0 0, .int .i64 0, .slice none 0 0] 27)).alloc (.cells #[.int .i64 0, .int .i64 0] 29) = W0 at b0 P1 P2 HL N0 ⊢
  refine HL.out.mono ?_; rintro e V ⟨⟨a, b, er, hne, hp, rfl⟩ | ⟨L, D, d, hp, rfl, ho⟩, hb⟩
  · rw [hp] at hT
    have hne' : (er != 0) = true := by simpa using hne
    have hlt := (P2.below hb).lt
    have R0 : PaR w (V.alloc (.cells #[.int .i64 a, .int .i64 b] 29)) V.heap.size (.int .i64 0) (.int .i64 0) (.slice none 0 0) (.slice none 0 0) (.int .i64 0) (.slice none 0 0) (.int .i64 0) (.int .i64 0) (.int .i64 a) (.int .i64 b) :=
      ⟨bl_alloc (bl_step b0 hb) _, (P1.below hb).alloc _, (P2.below hb).alloc _, Blk.new _ _ _, hlt⟩
    clear HL P1 P2 b0 N0 hb hlt hp hne
    go_wp2_with fail
    generalize V.alloc (.cells #[.int .i64 a, .int .i64 b] 29) = U at R0 ⊢
    generalize V.heap.size = y at R0 ⊢
    refine wp_region_pre (S := fun w' => w'.cell? ⟨y, 0, none⟩ = some (.int .i64 a) ∧ w'.cell? ⟨y, 1, none⟩ = some (.int .i64 b)) 5 (by kernel_rfl) (by kernel_rfl) ?_ (fun hH0 => ?_)
    · exact ⟨((R0.below (bl_drew (Below.refl _ _))).by_.cell 0).trans rfl, ((R0.below (bl_drew (Below.refl _ _))).by_.cell 1).trans rfl⟩
    refine PreG.take (i := 0) (v := ?vv1) rfl (by kernel_rfl) (by kernel_rfl) (fun _ _ _ h => h) (Or.inl ⟨by rfl, ?hy1⟩) (by assumption) ?rest1
    case hy1 => intro w hSw; (try dsimp only at hSw); first | (go_simp; done) | (go_simp; with_reducible rfl)
    try simp only [Act.put, List.getElem_toArray, List.getElem_cons_zero, List.getElem_cons_succ, List.setIfInBounds_toArray, List.set_cons_zero, List.set_cons_succ]
    refine PreG.take (i := 1) (v := ?vv2) rfl (by kernel_rfl) (by kernel_rfl) (fun _ _ _ h => h) (Or.inl ⟨by rfl, ?hy2⟩) (by assumption) ?rest2
    case hy2 => intro w hSw; (try dsimp only at hSw); first | (go_simp; done) | (go_simp; with_reducible rfl)
    try simp only [Act.put, List.getElem_toArray, List.getElem_cons_zero, List.getElem_cons_succ, List.setIfInBounds_toArray, List.set_cons_zero, List.set_cons_succ]
    refine PreG.take (i := 2) (v := ?vv3) rfl (by kernel_rfl) (by kernel_rfl) (fun _ _ _ h => h) (Or.inl ⟨by rfl, ?hy3⟩) (by assumption) ?rest3
    case hy3 => intro w hSw; (try dsimp only at hSw); first | (go_simp; done) | (go_simp; with_reducible rfl)
    try simp only [Act.put, List.getElem_toArray, List.getElem_cons_zero, List.getElem_cons_succ, List.setIfInBounds_toArray, List.set_cons_zero, List.set_cons_succ]
    refine PreG.ready (rs := [3]) (by kernel_rfl) (by kernel_rfl) ?_
    refine AllPre.cons rfl (fun K hK => ?_) ?_
    · have R1 := R0.below (bl_drew (Below.refl _ _))
      clear R0
      generalize U.drew = U5 at R1 ⊢
      have B5 := R1.b1
      have p_z : w.heap.size < U5.heap.size := B5.lt
      have p_c0 : U5.cell? ⟨w.heap.size, 0, none⟩ = some (.int .i64 0) := (B5.cell 0).trans rfl
      have p_f0 := B5.frozen 0
      have p_c1 : U5.cell? ⟨w.heap.size, 1, none⟩ = some (.int .i64 0) := (B5.cell 1).trans rfl
      have p_f1 := B5.frozen 1
      have p_c2 : U5.cell? ⟨w.heap.size, 2, none⟩ = some (.slice none 0 0) := (B5.cell 2).trans rfl
      have p_f2 := B5.frozen 2
      have p_c3 : U5.cell? ⟨w.heap.size, 3, none⟩ = some (.slice none 0 0) := (B5.cell 3).trans rfl
      have p_f3 := B5.frozen 3
      have p_c4 : U5.cell? ⟨w.heap.size, 4, none⟩ = some (.int .i64 0) := (B5.cell 4).trans rfl
      have p_f4 := B5.frozen 4
      have p_c5 : U5.cell? ⟨w.heap.size, 5, none⟩ = some (.slice none 0 0) := (B5.cell 5).trans rfl
      have p_f5 := B5.frozen 5
      go_simp
      have R2 := R1.put1 (a' := .int .i64 0) (b' := .int .i64 0) (c' := .slice none 0 0) (d' := .slice none 0 0) (e' := .int .i64 0) (f' := .slice none 0 0)
      clear R1 B5 p_z p_c0 p_f0 p_c1 p_f1 p_c2 p_f2 p_c3 p_f3 p_c4 p_f4 p_c5 p_f5
      generalize ((((((U5).setCell ⟨w.heap.size, 0, none⟩ (.int .i64 0)).setCell ⟨w.heap.size, 1, none⟩ (.int .i64 0)).setCell ⟨w.heap.size, 2, none⟩ (.slice none 0 0)).setCell ⟨w.heap.size, 3, none⟩ (.slice none 0 0)).setCell ⟨w.heap.size, 4, none⟩ (.int .i64 0)).setCell ⟨w.heap.size, 5, none⟩ (.slice none 0 0) = U6 at R2 ⊢
      refine hK.out _ _ ?_ (fun hH1 => ?_)
      · exact ⟨(R2.by_.cell 0).trans rfl, (R2.by_.cell 1).trans rfl⟩
      clear hK K hH0
      try simp only [Act.put, List.getElem_toArray, List.getElem_cons_zero, List.getElem_cons_succ, List.setIfInBounds_toArray, List.set_cons_zero, List.set_cons_succ]
      refine PreG.ready (rs := [4]) (by kernel_rfl) (by kernel_rfl) ?_
      refine AllPre.cons rfl (fun K hK => ?_) ?_
      · have B6 := R2.b2
        have q_z : w.heap.size + 1 < U6.heap.size := B6.lt
        have q_c0 : U6.cell? ⟨w.heap.size + 1, 0, none⟩ = some (.int .i64 0) := (B6.cell 0).trans rfl
        have q_f0 := B6.frozen 0
        have q_c1 : U6.cell? ⟨w.heap.size + 1, 1, none⟩ = some (.int .i64 0) := (B6.cell 1).trans rfl
        have q_f1 := B6.frozen 1
        go_simp
        have R3 := R2.put2 (x' := .int .i64 a) (y' := .int .i64 b)
        clear R2 B6 q_z q_c0 q_f0 q_c1 q_f1
        generalize ((U6).setCell ⟨w.heap.size + 1, 0, none⟩ (.int .i64 a)).setCell ⟨w.heap.size + 1, 1, none⟩ (.int .i64 b) = U7 at R3 ⊢
        refine hK.out _ _ ?_ (fun hH2 => ?_)
        · exact ⟨(R3.by_.cell 0).trans rfl, (R3.by_.cell 1).trans rfl⟩
        clear hK K hH1
        try simp only [Act.put, List.getElem_toArray, List.getElem_cons_zero, List.getElem_cons_succ, List.setIfInBounds_toArray, List.set_cons_zero, List.set_cons_succ]
        refine PreG.done (by kernel_rfl) ?_
        simp only [List.drop_succ_cons, List.drop_zero]
        clear hH2
        have B7 := R3.b1
        have B8 := R3.b2
        have p_z : w.heap.size < U7.heap.size := B7.lt
        have p_c0 : U7.cell? ⟨w.heap.size, 0, none⟩ = some (.int .i64 0) := (B7.cell 0).trans rfl
        have p_f0 := B7.frozen 0
        have p_c1 : U7.cell? ⟨w.heap.size, 1, none⟩ = some (.int .i64 0) := (B7.cell 1).trans rfl
        have p_f1 := B7.frozen 1
        have p_c2 : U7.cell? ⟨w.heap.size, 2, none⟩ = some (.slice none 0 0) := (B7.cell 2).trans rfl
        have p_f2 := B7.frozen 2
        have p_c3 : U7.cell? ⟨w.heap.size, 3, none⟩ = some (.slice none 0 0) := (B7.cell 3).trans rfl
        have p_f3 := B7.frozen 3
        have p_c4 : U7.cell? ⟨w.heap.size, 4, none⟩ = some (.int .i64 0) := (B7.cell 4).trans rfl
        have p_f4 := B7.frozen 4
        have p_c5 : U7.cell? ⟨w.heap.size, 5, none⟩ = some (.slice none 0 0) := (B7.cell 5).trans rfl
        have p_f5 := B7.frozen 5
        have q_z : w.heap.size + 1 < U7.heap.size := B8.lt
        have q_c0 : U7.cell? ⟨w.heap.size + 1, 0, none⟩ = some (.int .i64 a) := (B8.cell 0).trans rfl
        have q_f0 := B8.frozen 0
        have q_c1 : U7.cell? ⟨w.heap.size + 1, 1, none⟩ = some (.int .i64 b) := (B8.cell 1).trans rfl
        have q_f1 := B8.frozen 1
        go_wp2_with fail
        refine bodyPost_ret (v := .tuple #[.agg #[.int .i64 0, .int .i64 0, .slice none 0 0, .slice none 0 0, .int .i64 0, .slice none 0 0], .agg #[.int .i64 a, .int .i64 b], .int .i64 er]) (by simp [results, Tryd.results7, go_sem, p_c0, p_c1, p_c2, p_c3, p_c4, p_c5, q_c0, q_c1, p_f0, p_f1, p_f2, p_f3, p_f4, p_f5, q_f0, q_f1, p_z, q_z]) rfl ⟨R3.bl, .inl ⟨a, b, er, hT.symm, rfl⟩⟩
      exact AllPre.nil
    exact AllPre.nil
  · rw [hp] at hT
    have hlt := (P2.below hb).lt
    have R0 : PaR w (V.alloc (.cells #[.int .i64 0, .int .i64 0] 29)) V.heap.size (.int .i64 0) (.int .i64 0) (.slice none 0 0) (.slice none 0 0) (.int .i64 0) (.slice none 0 0) (.int .i64 0) (.int .i64 0) (.int .i64 0) (.int .i64 0) :=
      ⟨bl_alloc (bl_step b0 hb) _, (P1.below hb).alloc _, (P2.below hb).alloc _, Blk.new _ _ _, hlt⟩
    have N1 := (N0.below hb).below (bl_alloc (Below.refl _ _) (.cells #[.int .i64 0, .int .i64 0] 29))
    have hsz := hb.size
    have hE := lexT_ends hp
    have bU := bl_alloc (bl_alloc (Below.refl V.heap.size V) (.cells #[.int .i64 0, .int .i64 0] 29)) (.cells #[.slice D L.length d, .int .i64 0] 64)
    have RD : Rd ((V.alloc (.cells #[.int .i64 0, .int .i64 0] 29)).alloc (.cells #[.slice D L.length d, .int .i64 0] 64)) (V.heap.size + 1) D d L 0 :=
      ⟨Blk.new' (by simp) _ _, ((RdT.of_own ho).keep (Alike.of_below bU (Nat.le_refl _))).more (Nat.le_succ _), cap_of ho, by simpa using hE⟩
    have R1 := R0.below (bl_alloc (Below.refl _ _) (.cells #[.slice D L.length d, .int .i64 0] 64))
    have HR := Lib.hid (read_any RD (N1.below (bl_alloc (Below.refl _ _) (.cells #[.slice D L.length d, .int .i64 0] 64))))
    rw [List.drop_zero] at HR
    have hT' : (wholeP L).out = T := hT
    have hUs := RD.box.lt
    clear HL P1 P2 b0 N0 hb hp ho bU RD N1 R0 hE hT hsz
    go_wp2_with fail
    generalize (V.alloc (.cells #[.int .i64 0, .int .i64 0] 29)).alloc (.cells #[.slice D L.length d, .int .i64 0] 64) = U at R1 HR hUs ⊢
    refine HR.out.mono ?_; rintro e X ⟨hG, ⟨a, b, er, hp, rfl⟩ | ⟨I, rest, D1, d1, D2, d2, D3, d3, hp, rfl, HO⟩⟩
    · rw [hp] at hT'
      have R2 := R1.gr (Nat.lt_succ_self _) hG
      have B7 := R2.b1
      have B8 := R2.b2
      clear HR R1 hG
      have p_z : w.heap.size < X.heap.size := B7.lt
      have p_c0 : X.cell? ⟨w.heap.size, 0, none⟩ = some (.int .i64 0) := (B7.cell 0).trans rfl
      have p_f0 := B7.frozen 0
      have p_c1 : X.cell? ⟨w.heap.size, 1, none⟩ = some (.int .i64 0) := (B7.cell 1).trans rfl
      have p_f1 := B7.frozen 1
      have p_c2 : X.cell? ⟨w.heap.size, 2, none⟩ = some (.slice none 0 0) := (B7.cell 2).trans rfl
      have p_f2 := B7.frozen 2
      have p_c3 : X.cell? ⟨w.heap.size, 3, none⟩ = some (.slice none 0 0) := (B7.cell 3).trans rfl
      have p_f3 := B7.frozen 3
      have p_c4 : X.cell? ⟨w.heap.size, 4, none⟩ = some (.int .i64 0) := (B7.cell 4).trans rfl
      have p_f4 := B7.frozen 4
      have p_c5 : X.cell? ⟨w.heap.size, 5, none⟩ = some (.slice none 0 0) := (B7.cell 5).trans rfl
      have p_f5 := B7.frozen 5
      have q_z : w.heap.size + 1 < X.heap.size := B8.lt
      have q_c0 : X.cell? ⟨w.heap.size + 1, 0, none⟩ = some (.int .i64 0) := (B8.cell 0).trans rfl
      have q_f0 := B8.frozen 0
      have q_c1 : X.cell? ⟨w.heap.size + 1, 1, none⟩ = some (.int .i64 0) := (B8.cell 1).trans rfl
      have q_f1 := B8.frozen 1
      go_wp2_with fail
      refine bodyPost_ret (v := .tuple #[.agg #[.int .i64 0, .int .i64 0, .slice none 0 0, .slice none 0 0, .int .i64 0, .slice none 0 0], .agg #[.int .i64 a, .int .i64 b], .int .i64 er]) (by simp [results, Tryd.results7, go_sem, p_c0, p_c1, p_c2, p_c3, p_c4, p_c5, q_c0, q_c1, p_f0, p_f1, p_f2, p_f3, p_f4, p_f5, q_f0, q_f1, p_z, q_z]) rfl ⟨(R2.put1.put2).bl, .inl ⟨a, b, er, hT'.symm, rfl⟩⟩
    · rw [hp] at hT'
      have R2 := R1.gr (Nat.lt_succ_self _) hG
      have B7 := R2.b1
      have B8 := R2.b2
      clear HR R1 hG
      have p_z : w.heap.size < X.heap.size := B7.lt
      have p_c0 : X.cell? ⟨w.heap.size, 0, none⟩ = some (.int .i64 0) := (B7.cell 0).trans rfl
      have p_f0 := B7.frozen 0
      have p_c1 : X.cell? ⟨w.heap.size, 1, none⟩ = some (.int .i64 0) := (B7.cell 1).trans rfl
      have p_f1 := B7.frozen 1
      have p_c2 : X.cell? ⟨w.heap.size, 2, none⟩ = some (.slice none 0 0) := (B7.cell 2).trans rfl
      have p_f2 := B7.frozen 2
      have p_c3 : X.cell? ⟨w.heap.size, 3, none⟩ = some (.slice none 0 0) := (B7.cell 3).trans rfl
      have p_f3 := B7.frozen 3
      have p_c4 : X.cell? ⟨w.heap.size, 4, none⟩ = some (.int .i64 0) := (B7.cell 4).trans rfl
      have p_f4 := B7.frozen 4
      have p_c5 : X.cell? ⟨w.heap.size, 5, none⟩ = some (.slice none 0 0) := (B7.cell 5).trans rfl
      have p_f5 := B7.frozen 5
      have q_z : w.heap.size + 1 < X.heap.size := B8.lt
      have q_c0 : X.cell? ⟨w.heap.size + 1, 0, none⟩ = some (.int .i64 0) := (B8.cell 0).trans rfl
      have q_f0 := B8.frozen 0
      have q_c1 : X.cell? ⟨w.heap.size + 1, 1, none⟩ = some (.int .i64 0) := (B8.cell 1).trans rfl
      have q_f1 := B8.frozen 1
      go_wp2_with fail
      refine bodyPost_ret (v := .tuple #[.agg #[.int .i64 I.kind, .int .i64 I.cap, .slice D1 I.items.length d1, .slice D2 I.cost.length d2, .int .i64 I.size, .slice D3 I.sets.length d3], .agg #[.int .i64 0, .int .i64 0], .int .i64 0]) (by simp [results, Tryd.results7, go_sem, p_c0, p_c1, p_c2, p_c3, p_c4, p_c5, q_c0, q_c1, p_f0, p_f1, p_f2, p_f3, p_f4, p_f5, q_f0, q_f1, p_z, q_z]) rfl ⟨(R2.put1.put2).bl, .inr ⟨I, D1, d1, D2, d2, D3, d3, hT'.symm, rfl, ?_⟩⟩
      have O2 := ((HO.more (base' := w.heap.size + 1 + 1) (by omega)).res6 (r := w.heap.size) (by omega) (.int .i64 I.kind) (.int .i64 I.cap) (.slice D1 I.items.length d1) (.slice D2 I.cost.length d2) (.int .i64 I.size) (.slice D3 I.sets.length d3)).set (p := ⟨w.heap.size + 1, 0, none⟩) (Nat.lt_succ_self _) (.int .i64 0) |>.set (p := ⟨w.heap.size + 1, 1, none⟩) (Nat.lt_succ_self _) (.int .i64 0)
      exact O2.more (by omega)
end Go.Proofs.YtklomjpnmmaogaaDoor
