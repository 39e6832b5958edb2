/- Prices. -/
import Derived.Test.YtamfhommmogknaaDH
namespace Go.Proofs.Ytamfhommmogknaa
open Go Go.RowKit
set_option linter.unusedVariables false
set_option linter.unusedSimpArgs false
set_option maxRecDepth 100000

theorem list_clear {P : Program} {ops : Array Oper} {o : Oper} {rest : List Oper} {a : Act} {Q : Exit → Act → World → Prop} {w w' : World} {v' : Value} (hgd : o.guard = none) (s : Operand) (t : TypeId)
    (ho : o.op = .call { callee := .builtin .clear, args := #[s], argTypes := #[t] }) (hrun : (Builtin.clear_ #[t] o.type #[a.eval s]).run P w = .ok v' w') (h : wpList P ops Q rest (a.put o.dst v') w') :
    wpList P ops Q (o :: rest) a w := by
  refine wpList_plain hgd fun K hK' => ?_
  unfold Oper.wp execOp
  simp only [ho, resolve, invoke, builtin, Sem.run_bind, Sem.run_pure, Result.andThen_ok, List.map_toArray, List.map_cons, List.map_nil, hrun]
  exact hK' _ _ h
/-- What Prices hands back: both lists, or nothing. -/
def PricesPost (w : World) (c : List (List Int)) (no : List (List Bool)) (e : Ending) (w' : World) : Prop :=
  ((GoodP c no ∧ ∃ U u V v, e = .returned (.tuple #[.slice U c.length u, .slice V c.length v, .bool true]) ∧ w'.ownsRow w.heap.size 2 1 (.slice U c.length u) c.length ((rowN c no).map (Value.int .i64)) ∧ w'.ownsRow w.heap.size 2 1 (.slice V c.length v) c.length ((colN c no).map (Value.int .i64))) ∨
    (¬ GoodP c no ∧ e = .returned (.tuple #[.slice none 0 0, .slice none 0 0, .bool false]))) ∧ Below w.heap.size w w'
/-- What stands in the first pass, and in the second. -/
def InvR (c : List (List Int)) (no : List (List Bool)) (g gL : Nat) (i k : Nat) (w : World) : Prop := LinesAt w g (rowSt c no c.length i k) ∧ Blk w gL 45 #[.slice (some ⟨g, 0, none⟩) c.length c.length]
def InvC (c : List (List Int)) (no : List (List Bool)) (g gL gR base : Nat) (R : Option Addr) (rd : Nat) (i k : Nat) (w : World) : Prop := LinesAt w g (colSt c no (rowN c no) c.length i k) ∧ Blk w gL 45 #[.slice (some ⟨g, 0, none⟩) c.length c.length] ∧
  Blk w gR 29 #[.slice R c.length rd] ∧ w.ownsRow base 2 1 (.slice R c.length rd) c.length ((rowN c no).map (Value.int .i64))
theorem prices_n (w : World) (g n : Nat) (ls : List (Int × Bool)) (hL : LinesAt w g ls) (hn : ls.length = n) (h64 : n ≤ 64) : Calls Try.prog 21 #[.slice (some ⟨g, 0, none⟩) n n] w fun e w' =>
    ((∃ D d, e = .returned (.tuple #[.slice D n d, .bool true]) ∧ (∀ p ∈ ls, p.2 = true) ∧ w'.ownsRow w.heap.size 2 1 (.slice D n d) n ((ls.map (·.1)).map (Value.int .i64))) ∨ (e = .returned (.tuple #[.slice none 0 0, .bool false]) ∧ ∃ p ∈ ls, p.2 = false)) ∧ Below w.heap.size w w' := by
  subst hn
  exact prices_any w g ls hL h64
theorem passR (c : List (List Int)) (no : List (List Bool)) (A1 A2 : Option Addr) (c1 c2 : Nat) (w : World) {B g gL : Nat} (hI : TabAt w B c no A1 c1 A2 c2) (hP : ChkP c no) (hB : B ≤ g) (hg : g < gL) (h0 : InvR c no g gL 0 0 w) :
    Calls Try.prog 18 #[.agg #[.slice A1 c.length c1, .slice A2 c.length c2], .func (Fn.func 19) #[] #[.pointer (some ⟨gL, 0, none⟩)]] w fun e w' => (∃ v, e = .returned v) ∧ InvR c no g gL c.length 0 w' ∧ Mut g w w' := by
  have := eachR_any c no A1 A2 c1 c2 w gL (InvR c no g gL) hI hP hB h0.1.lt
    (fun i k r q x wr hr hq hx hk hv => by
      have hi : i < c.length := (List.getElem?_eq_some_iff.1 hr).1
      refine (row_any wr g gL c.length i k _ _ x hv.1 (rowSt_get hi) rowSt_len hP.1 hv.2).mono ?_
      rintro e v1 ⟨h1, h2, h3⟩
      exact ⟨h1, ⟨by rw [rowSt_see hr hq hx hk]; exact h2, hv.2.mut h3 (by omega)⟩, h3⟩)
    (fun i k q wr hq hk hv => ⟨by rw [rowSt_skip hq hk]; exact hv.1, hv.2⟩)
    (fun i wr _ hv => ⟨by rw [← rowSt_next]; exact hv.1, hv.2⟩)
    (fun i k wr w' hv hb => ⟨hv.1.below hb, hv.2.below hb⟩) h0
  rw [hP.2.1] at this
  exact this
theorem passC (c : List (List Int)) (no : List (List Bool)) (A1 A2 : Option Addr) (c1 c2 : Nat) (w : World) {B g gL gR base : Nat} {R : Option Addr} {rd : Nat} (hI : TabAt w B c no A1 c1 A2 c2) (hP : ChkP c no) (hB : B ≤ g) (hg : g < gL ∧ g < gR ∧ g < base) (h0 : InvC c no g gL gR base R rd 0 0 w) :
    Calls Try.prog 18 #[.agg #[.slice A1 c.length c1, .slice A2 c.length c2], .func (Fn.func 22) #[] #[.pointer (some ⟨gL, 0, none⟩), .pointer (some ⟨gR, 0, none⟩)]] w fun e w' => (∃ v, e = .returned v) ∧ InvC c no g gL gR base R rd c.length 0 w' ∧ Mut g w w' := by
  have := eachC_any c no A1 A2 c1 c2 w gL gR (InvC c no g gL gR base R rd) hI hP hB h0.1.lt
    (fun i k r q x wr hr hq hx hk hv => by
      have hi : i < c.length := (List.getElem?_eq_some_iff.1 hr).1
      have hkl : k < c.length := by have := (List.getElem?_eq_some_iff.1 hx).1; have := (hP.2.2 i r hr).1; omega
      obtain ⟨y, hy⟩ : ∃ y, (rowN c no)[i]? = some y := ⟨_, List.getElem?_eq_getElem (by rw [rowN_len]; exact hi)⟩
      refine (col_any wr g gL gR c.length i k base _ _ x y (rowN c no) R rd hv.1 (colSt_get hkl) colSt_len hP.1 ((hP.2.2 i r hr).2.2 x (List.mem_of_getElem? hx)) (rowN_in hP y (List.mem_of_getElem? hy)) hv.2.1 hv.2.2.1 hv.2.2.2 hy hg).mono ?_
      rintro e v1 ⟨h1, h2, h3⟩
      exact ⟨h1, ⟨by rw [colSt_see hr hq hx hk hy]; exact h2, hv.2.1.mut h3 (by omega), hv.2.2.1.mut h3 (by omega), own_mut hv.2.2.2 h3 hg.2.2⟩, h3⟩)
    (fun i k q wr hq hk hv => ⟨by rw [colSt_skip hq hk]; exact hv.1, hv.2⟩)
    (fun i wr _ hv => ⟨by rw [← colSt_next]; exact hv.1, hv.2⟩)
    (fun i k wr w' hv hb => ⟨hv.1.below hb, hv.2.1.below hb, hv.2.2.1.below hb, own_below hv.2.2.2 hb⟩) h0
  rw [hP.2.1] at this
  exact this
set_option maxHeartbeats 6400000 in
theorem pprices_any (c : List (List Int)) (no : List (List Bool)) (A1 A2 : Option Addr) (c1 c2 : Nat) (w : World) {B : Nat} (hI : TabAt w B c no A1 c1 A2 c2) :
    Calls Try.prog 8 #[.agg #[.slice A1 c.length c1, .slice A2 no.length c2]] w fun e w' => PricesPost w c no e w' := by
  have HI := Lib.hid hI
  have HC := Lib.hid (fun w' (hb : Below w.heap.size w w') => chk_any c no A1 A2 c1 c2 w' (hI.below hb))
  have N1 := hI.n1
  have N2 := hI.n2
  have bd := hI.bd
  clear hI
  by_cases hP : ChkP c no
  · rw [chkB_t hP] at HC
    rw [hP.2.1] at HC N2 ⊢
    have h64 := hP.1
    have hn70 : c.length ≤ 70 := by omega
    have HP := Lib.hid hP
    clear hP
    go_enter Try.func8, Try.ntmps8
    go_wp2_with fail
    have Bt0 : Blk (w.alloc (.cells #[.slice A1 c.length c1, .slice A2 c.length c2] 28)) w.heap.size 28 #[.slice A1 c.length c1, .slice A2 c.length c2] := Blk.new _ _ _
    have bl0 : Below w.heap.size w (w.alloc (.cells #[.slice A1 c.length c1, .slice A2 c.length c2] 28)) := bl_alloc (Below.refl _ _) _
    (with_reducible refine (HC.out _ bl0).mono ?_); rintro e v1 ⟨rfl, hb1⟩
    have Bt1 := Bt0.below hb1
    have bl1 := bl_step bl0 hb1
    clear Bt0 bl0 hb1
    have t_z : w.heap.size < v1.heap.size := Bt1.lt
    have t_c0 : v1.cell? ⟨w.heap.size, 0, none⟩ = some (.slice A1 c.length c1) := (Bt1.cell 0).trans rfl
    have t_f0 := Bt1.frozen 0
    have t_c1 : v1.cell? ⟨w.heap.size, 1, none⟩ = some (.slice A2 c.length c2) := (Bt1.cell 1).trans rfl
    have t_f1 := Bt1.frozen 1
    go_wp2_with (refine make_lines rfl (.tmp 14) rfl rfl hn70 ?_; intro v2 hL hb2 hs2; have nb : Below v2.heap.size v2 (v2.alloc (.cells #[.slice (some ⟨v1.heap.size, 0, none⟩) c.length c.length] 45)) := bl_alloc (Below.refl _ _) _; have Bt2 := (Bt1.below hb2).below nb; have u_z : w.heap.size < (v2.alloc (.cells #[.slice (some ⟨v1.heap.size, 0, none⟩) c.length c.length] 45)).heap.size := Bt2.lt; have u_c0 : (v2.alloc (.cells #[.slice (some ⟨v1.heap.size, 0, none⟩) c.length c.length] 45)).cell? ⟨w.heap.size, 0, none⟩ = some (.slice A1 c.length c1) := (Bt2.cell 0).trans rfl; have u_f0 := Bt2.frozen 0; have u_c1 : (v2.alloc (.cells #[.slice (some ⟨v1.heap.size, 0, none⟩) c.length c.length] 45)).cell? ⟨w.heap.size, 1, none⟩ = some (.slice A2 c.length c2) := (Bt2.cell 1).trans rfl; have u_f1 := Bt2.frozen 1)
    have bl2 : Below w.heap.size w (v2.alloc (.cells #[.slice (some ⟨v1.heap.size, 0, none⟩) c.length c.length] 45)) := bl_step (bl_step bl1 hb2) nb
    have lt1 : w.heap.size < v1.heap.size := Bt1.lt
    have I0 : InvR c no v1.heap.size (v1.heap.size + 1) 0 0 (v2.alloc (.cells #[.slice (some ⟨v1.heap.size, 0, none⟩) c.length c.length] 45)) := ⟨by rw [rowSt_start]; exact hL.below nb, Blk.new' (by rw [hs2]) _ _⟩
    (with_reducible refine (passR c no A1 A2 c1 c2 _ (HI.out.below bl2) HP.out (show B ≤ v1.heap.size by omega) (by omega) I0).mono ?_); rintro e v3 ⟨⟨_, rfl⟩, hv3, hm3⟩
    have sz2 : w.heap.size ≤ v1.heap.size := by omega
    have bl3 : Below w.heap.size w v3 := bl2.trans (hm3.bl.mono sz2)
    have Bt3 := Bt2.mut hm3 (by omega)
    have BL3 := hv3.2
    have HL3 := Lib.hid hv3.1
    clear u_z u_c0 u_f0 u_c1 u_f1 I0 hm3 nb hL hb2 hs2 Bt2 Bt1 bl1 bl2 hv3
    generalize v1.heap.size = g at HL3 BL3 lt1 sz2 ⊢
    have t3_z : w.heap.size < v3.heap.size := Bt3.lt
    have t3_c0 : v3.cell? ⟨w.heap.size, 0, none⟩ = some (.slice A1 c.length c1) := (Bt3.cell 0).trans rfl
    have t3_f0 := Bt3.frozen 0
    have t3_c1 : v3.cell? ⟨w.heap.size, 1, none⟩ = some (.slice A2 c.length c2) := (Bt3.cell 1).trans rfl
    have t3_f1 := Bt3.frozen 1
    have l3_z : g + 1 < v3.heap.size := BL3.lt
    have l3_c0 : v3.cell? ⟨g + 1, 0, none⟩ = some (.slice (some ⟨g, 0, none⟩) c.length c.length) := (BL3.cell 0).trans rfl
    have l3_f0 := BL3.frozen 0
    go_wp2_with fail
    have PN := Lib.hid (prices_n v3 g c.length (rowL c no) HL3.out rowSt_len h64)
    (with_reducible refine PN.out.mono ?_); rintro e v4 ⟨hpost, hb4⟩
    have bl4 := bl_step bl3 hb4
    have Bt4 := Bt3.below hb4
    have BL4 := BL3.below hb4
    have HL4 := Lib.hid (HL3.out.below hb4)
    have lt3 : g < v3.heap.size := HL3.out.lt
    have sz3 : w.heap.size ≤ v3.heap.size := bl3.size
    clear t3_z t3_c0 t3_f0 t3_c1 t3_f1 l3_z l3_c0 l3_f0
    rcases hpost with ⟨D, d, rfl, hall, hown⟩ | ⟨rfl, p, hp, hps⟩
    · have HA := Lib.hid hall
      have HO := Lib.hid hown
      have nb4 : Below v4.heap.size v4 (v4.alloc (.cells #[.slice D c.length d] 29)) := bl_alloc (Below.refl _ _) _
      obtain ⟨v5, rc, hL5, hm5⟩ := run_clearL (c := c.length) 0 (HL4.out.below nb4) rowSt_len
      have BL4' := BL4.below nb4
      have Bt5 := (Bt4.below nb4).mut hm5 (by omega)
      have BL5 := BL4'.mut hm5 (by omega)
      have lt4 : v3.heap.size ≤ v4.heap.size := hb4.size
      have BR5 : Blk v5 v4.heap.size 29 #[.slice D c.length d] := (Blk.new _ _ _).mut hm5 (by omega)
      have bl5 : Below w.heap.size w v5 := (bl_step bl4 nb4).trans (hm5.bl.mono (by omega))
      have I5 : InvC c no g (g + 1) v4.heap.size v3.heap.size D d 0 0 v5 := ⟨by rw [colSt_start]; exact hL5, BL5, BR5, own_mut (own_below HO.out nb4) hm5 lt3⟩
      clear hall hown hL5 hm5 nb4
      have l4_z : g + 1 < (v4.alloc (.cells #[.slice D c.length d] 29)).heap.size := BL4'.lt
      have l4_c0 : (v4.alloc (.cells #[.slice D c.length d] 29)).cell? ⟨g + 1, 0, none⟩ = some (.slice (some ⟨g, 0, none⟩) c.length c.length) := (BL4'.cell 0).trans rfl
      have l4_f0 := BL4'.frozen 0
      have t5_z : w.heap.size < v5.heap.size := Bt5.lt
      have t5_c0 : v5.cell? ⟨w.heap.size, 0, none⟩ = some (.slice A1 c.length c1) := (Bt5.cell 0).trans rfl
      have t5_f0 := Bt5.frozen 0
      have t5_c1 : v5.cell? ⟨w.heap.size, 1, none⟩ = some (.slice A2 c.length c2) := (Bt5.cell 1).trans rfl
      have t5_f1 := Bt5.frozen 1
      go_wp2_with (at_builtin; refine list_clear rfl (.tmp 26) 45 rfl (by exact rc) ?_)
      (with_reducible refine (passC c no A1 A2 c1 c2 _ (HI.out.below bl5) HP.out (show B ≤ g by omega) ⟨by omega, by omega, lt3⟩ I5).mono ?_); rintro e v6 ⟨⟨_, rfl⟩, hv6, hm6⟩
      have bl6 : Below w.heap.size w v6 := bl5.trans (hm6.bl.mono (by omega))
      obtain ⟨HL6, BL6, BR6, hown6⟩ := hv6
      replace HL6 := Lib.hid HL6
      replace hown6 := Lib.hid hown6
      clear I5 hm6 l4_z l4_c0 l4_f0 t5_z t5_c0 t5_f0 t5_c1 t5_f1 rc
      have l6_z : g + 1 < v6.heap.size := BL6.lt
      have l6_c0 : v6.cell? ⟨g + 1, 0, none⟩ = some (.slice (some ⟨g, 0, none⟩) c.length c.length) := (BL6.cell 0).trans rfl
      have l6_f0 := BL6.frozen 0
      go_wp2_with fail
      have PN := Lib.hid (prices_n v6 g c.length (colL c no) HL6.out colSt_len h64)
      (with_reducible refine PN.out.mono ?_); rintro e v7 ⟨hpost, hb7⟩
      have bl7 := bl_step bl6 hb7
      have BR7 := BR6.below hb7
      have HO7 := Lib.hid (own_below hown6.out hb7)
      have sz6 : w.heap.size ≤ v6.heap.size := bl6.size
      clear l6_z l6_c0 l6_f0
      rcases hpost with ⟨V, dv, rfl, hall, hown⟩ | ⟨rfl, p, hp, hps⟩
      · have HA2 := Lib.hid hall
        have HV := Lib.hid hown
        clear hall hown
        have r7_z : v4.heap.size < v7.heap.size := BR7.lt
        have r7_c0 : v7.cell? ⟨v4.heap.size, 0, none⟩ = some (.slice D c.length d) := (BR7.cell 0).trans rfl
        have r7_f0 := BR7.frozen 0
        go_wp2_with fail
        refine bodyPost_ret (v := .tuple #[.slice D c.length d, .slice V c.length dv, .bool true]) (by simp [results, Try.results8, go_sem]) rfl ⟨.inl ⟨⟨HP.out, HA.out, HA2.out⟩, D, d, V, dv, rfl, own_more HO7.out sz3, own_more HV.out sz6⟩, bl7⟩
      · have HN := Lib.hid (show ¬ GoodP c no from fun h => by have := h.2.2 p hp; simp [hps] at this)
        clear hp hps
        go_wp2_with fail
        refine bodyPost_ret (v := .tuple #[.slice none 0 0, .slice none 0 0, .bool false]) (by simp [results, Try.results8, go_sem]) rfl ⟨.inr ⟨HN.out, rfl⟩, bl7⟩
    · have HN := Lib.hid (show ¬ GoodP c no from fun h => by have := h.2.1 p hp; simp [hps] at this)
      clear hp hps
      go_wp2_with fail
      refine bodyPost_ret (v := .tuple #[.slice none 0 0, .slice none 0 0, .bool false]) (by simp [results, Try.results8, go_sem]) rfl ⟨.inr ⟨HN.out, rfl⟩, bl_alloc bl4 _⟩
  · rw [chkB_f hP] at HC
    have HN := Lib.hid (show ¬ GoodP c no from fun h => hP h.1)
    clear hP
    go_enter Try.func8, Try.ntmps8
    go_wp2_with fail
    have bl0 : Below w.heap.size w (w.alloc (.cells #[.slice A1 c.length c1, .slice A2 no.length c2] 28)) := bl_alloc (Below.refl _ _) _
    (with_reducible refine (HC.out _ bl0).mono ?_); rintro e v1 ⟨rfl, hb1⟩
    go_wp2_with fail
    refine bodyPost_ret (v := .tuple #[.slice none 0 0, .slice none 0 0, .bool false]) (by simp [results, Try.results8, go_sem]) rfl ⟨.inr ⟨HN.out, rfl⟩, bl_step bl0 hb1⟩
end Go.Proofs.Ytamfhommmogknaa
