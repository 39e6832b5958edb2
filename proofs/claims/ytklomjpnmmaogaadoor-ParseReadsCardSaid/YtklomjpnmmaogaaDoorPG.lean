/- The walk of elements. -/
import Derived.Test.YtklomjpnmmaogaaDoorPE
import Derived.LoopTactic
import Derived.Deep.LoopGhost
namespace Go.Proofs.YtklomjpnmmaogaaDoor
open Go Go.RowKit
set_option linter.unusedVariables false
set_option linter.unusedSimpArgs false
set_option maxRecDepth 100000

section
variable {w : World} {g c at_ : Nat} {A : Option Addr} {L : List Tok}
set_option maxHeartbeats 6400000 in
theorem elems_any (h : Rd w g A c L at_) (size : Int) (hsz : size ≤ 4096) : Calls Tryd.prog 101 #[.pointer (some ⟨g, 0, none⟩), .int .i64 size] w fun e w' => Rp w g A c L (elemsP size (L.drop at_).length (-1) [] (L.drop at_)) (fun es e w' => ∃ D d, e = .returned (.slice D es.length d) ∧ w'.ownsRow w.heap.size 3 1 (.slice D es.length d) es.length (es.map (Value.int .i64))) e w' := by
  obtain ⟨T, hT⟩ : ∃ T, elemsP size (L.drop at_).length (-1) [] (L.drop at_) = T := ⟨_, rfl⟩
  rw [hT]
  have hgl := h.gl
  go_enter Tryd.func101, Tryd.ntmps101
  go_wp2_with fail
  go_loopg [5, 6] L.length (fun gf v5 v6 wr => ∃ (f at_ : Nat) (acc : List Int) (D : Option Addr) (d : Nat) (last : Int), v5 = .slice D acc.length d ∧ v6 = .int .i64 last ∧ Gr w g wr ∧ Rd wr g A c L at_ ∧ wr.ownsRow w.heap.size 3 1 (.slice D acc.length d) acc.length (acc.map (Value.int .i64)) ∧ elemsP size f last acc (L.drop at_) = T ∧ (L.drop at_).length ≤ f ∧ f ≤ gf ∧ (acc.length : Int) ≤ last + 1 ∧ (acc.length : Int) ≤ 4096)
  case atStart => exact ⟨_, at_, [], none, 0, -1, rfl, rfl, Gr.refl _ _, h, own_nil _ _ _ _, hT, Nat.le_refl _, by rw [List.length_drop]; omega, by simp, by simp⟩
  case round =>
    clear h hT
    obtain ⟨f, at_, acc, D, d, last, rfl, rfl, G0, R0, O0, hI, hf, hgf, hal, ha4⟩ := hrel
    have hpos := R0.ends.pos
    obtain ⟨f', rfl⟩ : ∃ f', f = f' + 1 := ⟨f - 1, by omega⟩
    obtain ⟨gk', rfl⟩ : ∃ g', gk = g' + 1 := ⟨gk - 1, by omega⟩
    rw [elemsP] at hI
    have HA := Lib.hid (fun (W : World) (hR : Rd W g A c L at_) => ahead_any hR)
    have hnx : ¬ (headT (L.drop at_)).kind = 3 → L.drop (at_ + 1) = (L.drop at_).tail := fun hk => (R0.step hk).1
    have hlen : (L.drop (at_ + 1)).length + 1 = (L.drop at_).length := by have := R0.lt; rw [List.length_drop, List.length_drop]; omega
    have RS := Lib.hid (fun (W : World) (hR : Rd W g A c L at_) (hk : ¬ (headT (L.drop at_)).kind = 3) => (hR.step hk).2)
    have HF := Lib.hid (fun (W : World) (hR : Rd W g A c L at_) => fail_any hR 4)
    obtain ⟨t, ht⟩ : ∃ t, headT (L.drop at_) = t := ⟨_, rfl⟩
    rw [ht] at hI HA HF
    rw [ht] at hnx RS
    have hf0 : ∀ w, (Instr.field 116 (.agg #[.int .i64 (t).kind, .string ⟨(t).text.toArray⟩, .int .i64 (t).num, .int .i64 (t).line, .int .i64 (t).col]) 0).run Tryd.prog w = .ok (.int .i64 t.kind) w := fun _ => by kernel_rfl
    have hf2 : ∀ w, (Instr.field 116 (.agg #[.int .i64 (t).kind, .string ⟨(t).text.toArray⟩, .int .i64 (t).num, .int .i64 (t).line, .int .i64 (t).col]) 2).run Tryd.prog w = .ok (.int .i64 t.num) w := fun _ => by kernel_rfl
    by_cases hk : t.kind = 1
    · rw [if_pos hk] at hI
      have hk3 : ¬ t.kind = 3 := by omega
      rw [hk] at hf0 hf2
      have hk' : (t.kind == 1) = true := by simpa using hk
      go_wp2_with fail
      refine (HA.out _ R0).mono ?_; rintro e V1 ⟨rfl, hb1⟩
      have R1 := R0.below hb1
      have G1 := G0.below hb1
      have O1 := own_below O0 hb1
      clear R0 G0 O0 hb1
      go_wp2_with fail
      refine (HA.out _ R1).mono ?_; rintro e V2 ⟨rfl, hb2⟩
      have R2 := R1.below hb2
      have G2 := G1.below hb2
      have O2 := own_below O1 hb2
      clear R1 G1 O1 hb2 hf0
      by_cases hn : t.num ≤ last ∨ size ≤ t.num
      · rw [if_pos hn] at hI
        have hn' : ¬ t.num ≤ last → size ≤ t.num := fun h => by omega
        by_cases hn1 : t.num ≤ last
        · clear hn hn'
          go_wp2_with fail
          refine (HF.out _ R2).mono ?_; rintro e V3 ⟨rfl, hb3⟩
          exact ⟨rfl, G2.below hb3, .inl ⟨_, _, _, by rw [← hI, failP, ht], rfl⟩⟩
        · have hn2 : size ≤ t.num := hn' hn1
          clear hn hn'
          go_wp2_with fail
          refine (HF.out _ R2).mono ?_; rintro e V3 ⟨rfl, hb3⟩
          exact ⟨rfl, G2.below hb3, .inl ⟨_, _, _, by rw [← hI, failP, ht], rfl⟩⟩
      · rw [if_neg hn, ← hnx hk3] at hI
        have hn1 : ¬ t.num ≤ last := fun h => hn (.inl h)
        have hn2 : ¬ size ≤ t.num := fun h => hn (.inr h)
        have i0 : IntKind.i64.wrap ((at_ : Int) + 1) = (at_ : Int) + 1 := by have := R2.lt; have := R2.cap; rw [IntKind.wrap_i64]; omega
        have R3 := RS.out _ R2 hk3
        have G3 := G2.set (p := ⟨g, 1, none⟩) (.inl rfl) (.int .i64 ((at_ : Int) + 1))
        have O3 := own_rd O2 ((Gr.refl V2 g).set (p := ⟨g, 1, none⟩) (.inl rfl) (.int .i64 ((at_ : Int) + 1))) hgl
        have B2 := R2.box
        have hs3 := G3.hs
        clear hn R2 G2 O2 RS HF HA
        have hsz : (V2.setCell ⟨g, 1, none⟩ (.int .i64 ((at_ : Int) + 1))).heap.size = V2.heap.size := by simp [World.setCell]
        have NB : Blk ((V2.setCell ⟨g, 1, none⟩ (.int .i64 ((at_ : Int) + 1))).alloc (.cells #[.int .i64 t.num] 3)) V2.heap.size 3 #[.int .i64 t.num] := by
          have := Blk.new (V2.setCell ⟨g, 1, none⟩ (.int .i64 ((at_ : Int) + 1))) 3 #[.int .i64 t.num]
          rwa [hsz] at this
        have bA := bl_alloc (Below.refl _ (V2.setCell ⟨g, 1, none⟩ (.int .i64 ((at_ : Int) + 1)))) (.cells #[.int .i64 t.num] 3)
        obtain ⟨E, e', Y, hrun, O4, hgr⟩ := p_num (ty := 78) Tryd.underlying78 pinfo_N (own_below O3 bA) NB (by omega) (by omega) (by have := bA.size; omega)
        have R4 := (R3.below bA).kept hgr (fun k hk => by have := own_base O3 k hk; omega)
        have G4 := (G3.below bA).grown hgr (own_base O3)
        clear R3 G3 O3 NB bA hgr hs3 hsz hk3
        have s_z : g < V2.heap.size := B2.lt
        have s_c0 : V2.cell? ⟨g, 0, none⟩ = some (.slice A L.length c) := (B2.cell 0).trans rfl
        have s_f0 := B2.frozen 0
        have s_c1 : V2.cell? ⟨g, 1, none⟩ = some (.int .i64 at_) := (B2.cell 1).trans rfl
        have s_f1 := B2.frozen 1
        go_wp2_with (at_builtin; refine list_app rfl (.tmp 32) (.tmp 34) 78 78 rfl (by exact hrun) ?_)
        go_roundg gk'
        case measure => omega
        case rel => exact ⟨f', at_ + 1, acc ++ [t.num], E, e', t.num, by simp, rfl, G4, R4, by rw [List.length_append] at O4 ⊢; exact O4, hI, by omega, by omega, by rw [List.length_append]; simp; omega, by rw [List.length_append]; simp; omega⟩
    · rw [if_neg hk] at hI
      have hk' : (t.kind == 1) = false := by simpa using hk
      go_wp2_with fail
      refine (HA.out _ R0).mono ?_; rintro e V1 ⟨rfl, hb1⟩
      have R1 := R0.below hb1
      have G1 := G0.below hb1
      have O1 := own_below O0 hb1
      clear R0 G0 O0 hb1 hf2 HA HF RS
      go_wp2_with fail
      go_ret
      exact ⟨G1, .inr ⟨acc, at_, hI.symm, ⟨D, d, rfl, O1⟩, R1⟩⟩
end
end Go.Proofs.YtklomjpnmmaogaaDoor
