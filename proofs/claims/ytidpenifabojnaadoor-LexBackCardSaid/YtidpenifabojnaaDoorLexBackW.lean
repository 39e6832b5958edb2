/- The walk of LexBack. -/
import Derived.Test.YtidpenifabojnaaDoorLJ
namespace Go.Proofs.YtidpenifabojnaaDoor
open Go Go.RowKit
set_option linter.unusedVariables false
set_option linter.unusedSimpArgs false
set_option maxRecDepth 100000

theorem bare_get {L M : List Tok} (h : M.map Tok.bare = L.map Tok.bare) {k : Nat} {x : Tok} (hx : L[k]? = some x) : ∃ y, M[k]? = some y ∧ y.kind = x.kind ∧ y.text = x.text ∧ y.num = x.num := by
  have h1 : (M.map Tok.bare)[k]? = some x.bare := by rw [h, List.getElem?_map, hx]; rfl
  rw [List.getElem?_map] at h1
  obtain ⟨y, hy, e⟩ := Option.map_eq_some_iff.1 h1
  simp only [Tok.bare, Prod.mk.injEq] at e
  exact ⟨y, hy, e.1, e.2.1, e.2.2⟩
/-- The places of the k-th token are set. -/
theorem toksC_set : ∀ (l : List Tok) (k : Nat) (y : Tok) (a b : Nat), l[k]? = some y → ((toksC l).set (k * 5 + 3) (.int .i64 a)).set (k * 5 + 4) (.int .i64 b) = toksC (l.set k { y with line := a, col := b })
  | [], k, y, a, b, h => by simp at h
  | t :: r, 0, y, a, b, h => by
    simp at h
    subst h
    rfl
  | t :: r, k + 1, y, a, b, h => by
    have := toksC_set r k y a b (by simpa using h)
    simp only [toksC, List.set_cons_succ, ← this]
    have e : (tokC t).length = 5 := rfl
    rw [List.set_append_right _ _ (by rw [e]; omega), List.set_append_right _ _ (by rw [e]; omega), e]
    rw [show (k + 1) * 5 + 3 - 5 = k * 5 + 3 by omega, show (k + 1) * 5 + 4 - 5 = k * 5 + 4 by omega]
theorem mix_set {L M : List Tok} {k : Nat} {x y : Tok} (hl : M.length = L.length) (hx : L[k]? = some x) (hy : M[k]? = some y) (h1 : y.kind = x.kind) (h2 : y.text = x.text) (h3 : y.num = x.num) :
    (L.take k ++ M.drop k)[k]? = some y ∧ (L.take k ++ M.drop k).set k { y with line := x.line, col := x.col } = L.take (k + 1) ++ M.drop (k + 1) := by
  have hk : k < L.length := (List.getElem?_eq_some_iff.1 hx).1
  have hk2 : k < M.length := (List.getElem?_eq_some_iff.1 hy).1
  have e1 : (L.take k).length = k := by rw [List.length_take]; omega
  have e2 : M.drop k = y :: M.drop (k + 1) := by
    rw [List.drop_eq_getElem_cons hk2]
    congr 1
    have := List.getElem?_eq_getElem hk2
    rw [hy] at this
    injection this with this
    exact this.symm
  have e3 : ({ y with line := x.line, col := x.col } : Tok) = x := by
    obtain ⟨a, b, c, d, e⟩ := x
    simp only at h1 h2 h3
    rw [h1, h2, h3]
  constructor
  · rw [List.getElem?_append_right (by omega), e1, e2]; simp
  · rw [List.set_append_right _ _ (by omega), e1, e2, e3, Nat.sub_self, List.set_cons_zero, tok_snoc hx, List.append_assoc]
    rfl
theorem own_put {w : World} {base g n d : Nat} {e : TypeId} {size : Nat} {xs : List Value} (h : w.ownsRow base e size (.slice (some ⟨g, 0, none⟩) n d) n xs) (j : Nat) (hj : j < n * size) (u : Value) : (w.setCell ⟨g, j, none⟩ u).ownsRow base e size (.slice (some ⟨g, 0, none⟩) n d) n (xs.set j u) := own_store h j hj u
theorem RdT.set {w : World} {B : Nat} {A : Option Addr} {l : List Tok} (h : RdT w B A l) {g j : Nat} (hg : B ≤ g) (u : Value) : RdT (w.setCell ⟨g, j, none⟩ u) B A l :=
  h.keep fun p hp => by
    unfold World.cell?
    rw [Below.heap_setCell w ⟨g, j, none⟩ u p.block (by simp; omega)]
set_option maxHeartbeats 6400000 in
theorem LexBack_walk (s : ByteArray) (w : World) (hw : LexW w) (hs : s.size ≤ 140737488355328) :
    Calls Tryd.prog 5 #[.string s] w fun e w' => e = .returned (.bool true) ∧ Below w.heap.size w w' := by
  have HW := Lib.hid hw
  have HL := Lib.hid (lex_any s w hw)
  have HK := Lib.hid (fun w' (hb : Below w.heap.size w w') => wakes_any w' (hw.below hb))
  clear hw
  go_enter Tryd.func5, Tryd.ntmps5
  go_wp2_with fail
  refine HL.out.mono ?_; rintro e v1 ⟨⟨a, c, er, hne, hT, rfl⟩ | ⟨L, D, d, hT, rfl, ho⟩, hb1⟩
  · have hne' : (er == 0) = false := by simpa using hne
    clear HL hT
    go_wp2_with fail
    refine (HK.out _ (bl_alloc hb1 _)).mono ?_; rintro e v2 ⟨rfl, hb2⟩
    have bl2 := bl_step (bl_alloc hb1 _) hb2
    go_wp2_with fail
    refine (HK.out _ bl2).mono ?_; rintro e v3 ⟨rfl, hb3⟩
    have bl3 := bl_step bl2 hb3
    go_wp2
    go_ret
    exact ⟨rfl, bl3⟩
  · obtain ⟨hs1, hT1, l0, a0, b0, hL0, hg, hwt⟩ := lexT_shape hT
    obtain ⟨D', d', e1, hd1, hd2⟩ := own_slice ho
    injection e1 with e1 _ e2
    subst e1 e2
    have hLn : L.length ≤ 2097153 := Nat.le_trans (len_wt L) hwt
    have HT := Lib.hid hT
    have HO := Lib.hid ho
    clear HL hT ho hT1 hg hL0
    go_wp2_with fail
    refine (HK.out _ (bl_alloc hb1 _)).mono ?_; rintro e v2 ⟨rfl, hb2⟩
    have st2 := bl_step (bl_alloc (Below.refl _ _) (.cells #[.int .i64 0, .int .i64 0] 25)) hb2
    have bl2 := bl_step hb1 st2
    have RD2 := Lib.hid (RdT.of_own (own_below HO.out st2))
    have HJ := Lib.hid (join_any D L d v2 hd1 hd2 RD2.out hwt)
    clear hb2
    go_wp2_with fail
    refine HJ.out.mono ?_; rintro e v3 ⟨rfl, hb3⟩
    have bl3 := bl_step bl2 hb3
    have RD3 := Lib.hid (RdT.of_own (own_below (own_below HO.out st2) hb3))
    have HM := lex_any ⟨(joinU L).toArray⟩ v3 (HW.out.below bl3)
    have ej : (⟨(joinU L).toArray⟩ : ByteArray).data.toList = joinU L := by simp
    rw [ej] at HM
    replace HM := Lib.hid HM
    clear HJ hb3 ej RD2
    by_cases hlong : 1048576 < (joinU L).length
    · have h7 : lexT (joinU L) = .err 1 1 7 := by unfold lexT; rw [if_pos hlong]
      rw [h7] at HM
      have hl2 : (1048576 : Int) < ((joinU L).length : Int) := by omega
      generalize joinU L = z at HM hl2 ⊢
      clear hlong h7
      go_wp2_with fail
      refine HM.out.mono ?_; rintro e v4 ⟨⟨a, c, er, _, hE, rfl⟩ | ⟨M, D2, d2, hE, _⟩, hb4⟩
      · injection hE with ha hc hE
        subst ha hc hE
        go_wp2
        go_ret
        exact ⟨rfl, bl_alloc (bl_step bl3 hb4) _⟩
      · cases hE
    · obtain ⟨M, hM, hbare⟩ := lex_back HT.out (by omega)
      have hml : M.length = L.length := by have := congrArg List.length hbare; simpa using this
      rw [hM] at HM
      have hl2 : ¬ (1048576 : Int) < ((joinU L).length : Int) := by omega
      have HB := Lib.hid hbare
      have HML := Lib.hid hml
      generalize joinU L = z at HM hl2 ⊢
      clear hlong hM hbare
      go_wp2_with fail
      refine HM.out.mono ?_; rintro e v4 ⟨⟨a, c, er, _, hE, _⟩ | ⟨M2, D2, d2, hE, rfl, ho2⟩, hb4⟩
      · cases hE
      · injection hE with hE
        subst hE
        rw [hml] at ho2 ⊢
        obtain ⟨D3, d3, e1, hd3, hd4⟩ := own_slice ho2
        injection e1 with e1 _ e2
        subst e1 e2
        have st4 := bl_step hb4 (bl_alloc (Below.refl _ _) (.cells #[.int .i64 0, .int .i64 0] 25))
        have bl4 := Lib.hid (bl_step bl3 st4)
        have HO2 := Lib.hid (own_below ho2 (bl_alloc (Below.refl _ _) (.cells #[.int .i64 0, .int .i64 0] 25)))
        have RD4 := Lib.hid (RD3.out.keep (Alike.of_below st4 (Nat.le_refl _)))
        have sz3 : w.heap.size ≤ v3.heap.size := bl3.size
        have hn2 : (L.length : Int) ≤ 2097153 := by omega
        clear hml ho2 HM hb4 HO RD3 st4
        go_wp2_with fail
        go_loopw [53] (fun vi wr => ∃ (k : Nat), vi = .int .i64 k ∧ k ≤ L.length ∧ Hid (Below w.heap.size w wr) ∧ Hid (wr.ownsRow v3.heap.size 32 5 (.slice D2 L.length d2) L.length (toksC (L.take k ++ M.drop k))) ∧ Hid (RdT wr v3.heap.size D L)) (fun vi _ => L.length - (intOf vi).toNat)
        case atStart => exact ⟨0, rfl, Nat.zero_le _, bl4, HO2, RD4⟩
        case round =>
          clear bl4 HO2 RD4
          obtain ⟨k, rfl, hk, HW4, HO2, RD⟩ := hrel
          by_cases hlt : k < L.length
          · obtain ⟨x, hx⟩ : ∃ x, L[k]? = some x := ⟨_, List.getElem?_eq_getElem hlt⟩
            obtain ⟨y, hy, q1, q2, q3⟩ := bare_get HB.out hx
            obtain ⟨m1, m2⟩ := mix_set HML.out hx hy q1 q2 q3
            obtain ⟨g2, rfl, hg1, hg2, hgc, hgf⟩ := own_lt HO2.out (by omega)
            obtain ⟨b, o, rfl, hb, x0, x1, x2, x3, x4⟩ := RD.out.at5 hx
            have i0 : (0 : Int) ≤ k := by omega
            have i1 : (k : Int) < L.length := by omega
            have z3 : wr.cell? ⟨g2, k * 5 + 3, none⟩ = some (.int .i64 y.line) := hgc _ _ (by rw [toksC_get _ k 3 y m1 (by omega)]; rfl)
            have z4 : wr.cell? ⟨g2, k * 5 + 4, none⟩ = some (.int .i64 y.col) := hgc _ _ (by rw [toksC_get _ k 4 y m1 (by omega)]; rfl)
            have f3 := hgf (k * 5 + 3)
            have f4 := hgf (k * 5 + 4)
            have P2 := own_put (own_put HO2.out (k * 5 + 3) (by omega) (.int .i64 x.line)) (k * 5 + 4) (by omega) (.int .i64 x.col)
            rw [toksC_set _ k y x.line x.col m1, m2] at P2
            have RD2 := (RD.out.set (j := k * 5 + 3) hg1 (.int .i64 x.line)).set (j := k * 5 + 4) hg1 (.int .i64 x.col)
            have BL2 := bl_set (bl_set HW4.out (p := ⟨g2, k * 5 + 3, none⟩) (Nat.le_trans sz3 hg1) (.int .i64 x.line)) (p := ⟨g2, k * 5 + 4, none⟩) (Nat.le_trans sz3 hg1) (.int .i64 x.col)
            have HX := Lib.hid hx
            have MG := Lib.hid (show (L.take (k + 1) ++ M.drop (k + 1))[k]? = some x by rw [tok_snoc hx, List.append_assoc, List.getElem?_append_right (by rw [List.length_take]; omega)]; simp [List.length_take, Nat.min_eq_left hk])
            clear x0 x1 x2 hgc hgf m1 m2 hx hy q1 q2 q3
            replace P2 := Lib.hid P2
            replace RD2 := Lib.hid RD2
            replace BL2 := Lib.hid BL2
            go_wp2_with fail
            clear z3 z4 f3 f4 x3 x4
            generalize (wr.setCell ⟨g2, k * 5 + 3, none⟩ (.int .i64 x.line)).setCell ⟨g2, k * 5 + 4, none⟩ (.int .i64 x.col) = V at P2 RD2 BL2 ⊢
            obtain ⟨g3, eg, _, hg3, hgc, _⟩ := own_lt P2.out (by omega)
            injection eg with eg
            injection eg with eg
            subst eg
            obtain ⟨b2, o2, eb, _, y0, y1, y2, y3, y4⟩ := RD2.out.at5 HX.out
            injection eb with eb
            injection eb with eb eo
            subst eb eo
            have t0 : V.cell? ⟨g2, k * 5, none⟩ = some (.int .i64 x.kind) := hgc _ _ (by rw [show k * 5 = k * 5 + 0 by omega, toksC_get _ k 0 x MG.out (by omega)]; rfl)
            have t1 : V.cell? ⟨g2, k * 5 + 1, none⟩ = some (.string ⟨x.text.toArray⟩) := hgc _ _ (by rw [toksC_get _ k 1 x MG.out (by omega)]; rfl)
            have t2 : V.cell? ⟨g2, k * 5 + 2, none⟩ = some (.int .i64 x.num) := hgc _ _ (by rw [toksC_get _ k 2 x MG.out (by omega)]; rfl)
            have t3 : V.cell? ⟨g2, k * 5 + 3, none⟩ = some (.int .i64 x.line) := hgc _ _ (by rw [toksC_get _ k 3 x MG.out (by omega)]; rfl)
            have t4 : V.cell? ⟨g2, k * 5 + 4, none⟩ = some (.int .i64 x.col) := hgc _ _ (by rw [toksC_get _ k 4 x MG.out (by omega)]; rfl)
            clear hgc
            go_quiet (skip)
            go_wp2_with fail
            go_roundw
            case rel => exact ⟨k + 1, by go_num, by omega, Lib.hid (bl_drewN BL2.out nq), Lib.hid (own_below P2.out (bl_drewN (Below.refl _ _) nq)), Lib.hid (RD2.out.keep (fun p _ => rfl))⟩
            case measure => simp only [intOf]; omega
          · obtain rfl : k = L.length := by omega
            go_wp2
            go_ret
            exact ⟨rfl, HW4.out⟩
end Go.Proofs.YtidpenifabojnaaDoor
