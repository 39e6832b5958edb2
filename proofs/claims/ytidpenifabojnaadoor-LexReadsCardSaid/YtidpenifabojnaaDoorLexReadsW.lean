/- The walk of LexReads. -/
import Derived.Test.YtidpenifabojnaaDoorLR
import Derived.Test.YtidpenifabojnaaDoorLS
namespace Go.Proofs.YtidpenifabojnaaDoor
open Go Go.RowKit
set_option linter.unusedVariables false
set_option linter.unusedSimpArgs false
set_option maxRecDepth 100000

/-- What is handed back, as values. -/
def outT : LexR → List Tok × Nat × Nat × Int
  | .err a c e => ([], a, c, e)
  | .ok L => (L, 0, 0, 0)
theorem out_good (s : List UInt8) : wt (outT (lexT s)).1 ≤ 2097153 ∧ joinS [] (outT (lexT s)).1 = joinU (outT (lexT s)).1 := by
  cases h : lexT s with
  | err a c e => exact ⟨by simp [outT, wt], rfl⟩
  | ok L =>
    obtain ⟨_, _, l, a, b, rfl, hg, hw⟩ := lexT_shape h
    refine ⟨hw, joinS_U _ fun t ht => ?_⟩
    rcases List.mem_append.1 ht with ht | ht
    · exact .inr (good_text (hg t ht))
    · have : t = ⟨3, [], 0, a, b⟩ := by simpa using ht
      rw [this]; exact .inl rfl
theorem lex_out {w w' : World} {T : LexR} {e : Ending} (h : LexPost w T e w') : ∃ D d, e = .returned (.tuple #[.slice D (outT T).1.length d, .agg #[.int .i64 (outT T).2.1, .int .i64 (outT T).2.2.1], .int .i64 (outT T).2.2.2]) ∧ (outT T).1.length ≤ d ∧ d ≤ 9223372036854775807 ∧ RdT w' w'.heap.size D (outT T).1 ∧ Below w.heap.size w w' := by
  rcases h with ⟨⟨a, c, er, _, rfl, rfl⟩ | ⟨L, D, d, rfl, rfl, ho⟩, hb⟩
  · exact ⟨none, 0, rfl, Nat.le_refl _, by omega, ⟨Reads.none_ _ _ _ _⟩, hb⟩
  · obtain ⟨A, c, e, h1, h2⟩ := own_slice ho
    injection e with e1 _ e2
    subst e1 e2
    exact ⟨D, d, rfl, h1, h2, RdT.of_own ho, hb⟩
theorem rlex_out {w w' : World} {T : LexR} {e : Ending} (h : RLexPost w T e w') : ∃ D d, e = .returned (.tuple #[.slice D (outT T).1.length d, .agg #[.int .i64 (outT T).2.1, .int .i64 (outT T).2.2.1], .int .i64 (outT T).2.2.2]) ∧ (outT T).1.length ≤ d ∧ d ≤ 9223372036854775807 ∧ RdT w' w'.heap.size D (outT T).1 ∧ Below w.heap.size w w' := by
  rcases h with ⟨⟨a, c, er, rfl, rfl⟩ | ⟨L, D, d, rfl, rfl, ho⟩, hb⟩
  · exact ⟨none, 0, rfl, Nat.le_refl _, by omega, ⟨Reads.none_ _ _ _ _⟩, hb⟩
  · obtain ⟨A, c, e, h1, h2⟩ := own_slice ho
    injection e with e1 _ e2
    subst e1 e2
    exact ⟨D, d, rfl, h1, h2, RdT.of_own ho, hb⟩
set_option maxHeartbeats 12800000 in
theorem LexReads_walk (s : ByteArray) (w : World) (hw : LexW w) (hs : s.size ≤ 140737488355328) :
    Calls Tryd.prog 4 #[.string s] w fun e w' => e = .returned (.bool true) ∧ Below w.heap.size w w' := by
  obtain ⟨hwt, hjo⟩ := out_good s.data.toList
  have HL := (lex_any s w hw).mono fun e w' h => lex_out h
  have HR := fun w => (rlex_any s w).mono fun e w' h => rlex_out h
  have HK := Lib.hid (fun w' (hb : Below w.heap.size w w') => wakes_any w' (hw.below hb))
  generalize outT (lexT s.data.toList) = Z at HL HR hwt hjo
  obtain ⟨L, pa, pc, er⟩ := Z
  simp only at HL HR hwt hjo
  replace HL := Lib.hid HL
  replace HR := Lib.hid HR
  have HJ := Lib.hid hjo
  have hLn : L.length ≤ 2097153 := Nat.le_trans (len_wt L) hwt
  have hn2 : (L.length : Int) ≤ 2097153 := by omega
  clear hw hjo
  go_enter Tryd.func4, Tryd.ntmps4
  go_wp2_with fail
  refine HL.out.mono ?_; rintro e v1 ⟨D, d, rfl, hd1, hd2, RD1, hb1⟩
  have bl1 := bl_alloc hb1 (.cells #[.int .i64 pa, .int .i64 pc] 25)
  have B1 : Blk (v1.alloc (.cells #[.int .i64 pa, .int .i64 pc] 25)) v1.heap.size 25 #[.int .i64 pa, .int .i64 pc] := Blk.new _ _ _
  replace RD1 := Lib.hid (RD1.keep (Alike.of_below (bl_alloc (Below.refl _ _) (.cells #[.int .i64 pa, .int .i64 pc] 25)) (Nat.le_refl _)))
  go_wp2_with fail
  refine (HR.out _).mono ?_; rintro e v2 ⟨D2, d2, rfl, hd3, hd4, RD2, hb2⟩
  have st2 := bl_step hb2 (bl_alloc (Below.refl _ _) (.cells #[.int .i64 pa, .int .i64 pc] 35))
  have bl2 := bl_step bl1 st2
  replace B1 := B1.below st2
  have B2 : Blk (v2.alloc (.cells #[.int .i64 pa, .int .i64 pc] 35)) v2.heap.size 35 #[.int .i64 pa, .int .i64 pc] := Blk.new _ _ _
  replace RD1 := Lib.hid (RD1.out.keep (Alike.of_below st2 (bl_alloc (Below.refl _ _) _).size))
  replace RD2 := Lib.hid (RD2.keep (Alike.of_below (bl_alloc (Below.refl _ _) (.cells #[.int .i64 pa, .int .i64 pc] 35)) (Nat.le_refl _)))
  have sz1 : v1.heap.size ≤ v2.heap.size := Nat.le_trans (bl_alloc (Below.refl v1.heap.size v1) _).size hb2.size
  clear hb1 hb2 st2 bl1 HL HR
  go_wp2_with fail
  refine (HK.out _ bl2).mono ?_; rintro e v3 ⟨rfl, hb3⟩
  replace bl2 := bl_step bl2 hb3
  replace B1 := B1.below hb3
  replace B2 := B2.below hb3
  have szv : v2.heap.size ≤ v3.heap.size := Nat.le_trans (bl_alloc (Below.refl v2.heap.size v2) _).size hb3.size
  replace RD1 := Lib.hid ((RD1.out.keep (Alike.of_below hb3 (Nat.le_trans sz1 (bl_alloc (Below.refl v2.heap.size v2) _).size))).more (Nat.le_trans sz1 szv))
  replace RD2 := Lib.hid ((RD2.out.keep (Alike.of_below hb3 (bl_alloc (Below.refl v2.heap.size v2) _).size)).more szv)
  clear hb3
  have p_z : v1.heap.size < v3.heap.size := B1.lt
  have p_c0 : v3.cell? ⟨v1.heap.size, 0, none⟩ = some (.int .i64 pa) := (B1.cell 0).trans rfl
  have p_f0 := B1.frozen 0
  have p_c1 : v3.cell? ⟨v1.heap.size, 1, none⟩ = some (.int .i64 pc) := (B1.cell 1).trans rfl
  have p_f1 := B1.frozen 1
  have q_z : v2.heap.size < v3.heap.size := B2.lt
  have q_c0 : v3.cell? ⟨v2.heap.size, 0, none⟩ = some (.int .i64 pa) := (B2.cell 0).trans rfl
  have q_f0 := B2.frozen 0
  have q_c1 : v3.cell? ⟨v2.heap.size, 1, none⟩ = some (.int .i64 pc) := (B2.cell 1).trans rfl
  have q_f1 := B2.frozen 1
  go_wp2_with fail
  clear p_z p_c0 p_f0 p_c1 p_f1 q_z q_c0 q_f0 q_c1 q_f1
  go_loopw [48] (fun vi wr => ∃ (k : Nat), vi = .int .i64 k ∧ k ≤ L.length ∧ Hid (Below v3.heap.size v3 wr)) (fun vi _ => L.length - (intOf vi).toNat)
  case atStart => exact ⟨0, rfl, Nat.zero_le _, Lib.hid (Below.refl _ _)⟩
  case round =>
    obtain ⟨k, rfl, hk, HW⟩ := hrel
    by_cases hlt : k < L.length
    · obtain ⟨x, hx⟩ : ∃ x, L[k]? = some x := ⟨_, List.getElem?_eq_getElem hlt⟩
      have R1 := RD1.out.keep (Alike.of_below HW.out (Nat.le_refl _))
      obtain ⟨b, o, rfl, hb, x0, x1, x2, x3, x4⟩ := R1.at5 hx
      have stn := bl_alloc (Below.refl wr.heap.size wr) (.cells #[.int .i64 x.kind, .string ⟨x.text.toArray⟩, .int .i64 x.num, .int .i64 x.line, .int .i64 x.col] 32)
      have R2 := (RD2.out.keep (Alike.of_below HW.out (Nat.le_refl _))).keep (Alike.of_below stn HW.out.size)
      obtain ⟨b2, o2, rfl, hb2, y0, y1, y2, y3, y4⟩ := R2.at5 hx
      have NB : Blk (wr.alloc (.cells #[.int .i64 x.kind, .string ⟨x.text.toArray⟩, .int .i64 x.num, .int .i64 x.line, .int .i64 x.col] 32)) wr.heap.size 32 #[.int .i64 x.kind, .string ⟨x.text.toArray⟩, .int .i64 x.num, .int .i64 x.line, .int .i64 x.col] := Blk.new _ _ _
      have HW2 := Lib.hid (bl_alloc HW.out (.cells #[.int .i64 x.kind, .string ⟨x.text.toArray⟩, .int .i64 x.num, .int .i64 x.line, .int .i64 x.col] 32))
      have i0 : (0 : Int) ≤ k := by omega
      have i1 : (k : Int) < L.length := by omega
      clear R1 R2 stn hx
      replace y0 := Lib.hid y0
      replace y1 := Lib.hid y1
      replace y2 := Lib.hid y2
      replace y3 := Lib.hid y3
      replace y4 := Lib.hid y4
      replace NB := Lib.hid NB
      go_wp2_with fail
      clear x0 x1 x2 x3 x4
      generalize wr.alloc (.cells #[.int .i64 x.kind, .string ⟨x.text.toArray⟩, .int .i64 x.num, .int .i64 x.line, .int .i64 x.col] 32) = V at y0 y1 y2 y3 y4 NB HW2 ⊢
      replace y0 := y0.out
      replace y1 := y1.out
      replace y2 := y2.out
      replace y3 := y3.out
      replace y4 := y4.out
      have NB := NB.out
      have n_z : wr.heap.size < V.heap.size := NB.lt
      have n_c0 : V.cell? ⟨wr.heap.size, 0, none⟩ = some (.int .i64 x.kind) := (NB.cell 0).trans rfl
      have n_f0 := NB.frozen 0
      have n_c1 : V.cell? ⟨wr.heap.size, 1, none⟩ = some (.string ⟨x.text.toArray⟩) := (NB.cell 1).trans rfl
      have n_f1 := NB.frozen 1
      have n_c2 : V.cell? ⟨wr.heap.size, 2, none⟩ = some (.int .i64 x.num) := (NB.cell 2).trans rfl
      have n_f2 := NB.frozen 2
      have n_c3 : V.cell? ⟨wr.heap.size, 3, none⟩ = some (.int .i64 x.line) := (NB.cell 3).trans rfl
      have n_f3 := NB.frozen 3
      have n_c4 : V.cell? ⟨wr.heap.size, 4, none⟩ = some (.int .i64 x.col) := (NB.cell 4).trans rfl
      have n_f4 := NB.frozen 4
      go_quiet (skip)
      go_wp2_with fail
      go_roundw
      case rel => exact ⟨k + 1, by go_num, by omega, Lib.hid (bl_drewN HW2.out nq)⟩
      case measure => simp only [intOf]; omega
    · obtain rfl : k = L.length := by omega
      have R1 := (RD1.out.keep (Alike.of_below HW.out (Nat.le_refl _))).more HW.out.size
      have J1 := Lib.hid (join_any D L d wr hd1 hd2 R1 hwt)
      have R2 := Lib.hid ((RD2.out.keep (Alike.of_below HW.out (Nat.le_refl _))).more HW.out.size)
      have blr := bl_step bl2 HW.out
      clear R1
      go_wp2_with fail
      refine J1.out.mono ?_; rintro e v4 ⟨rfl, hb4⟩
      have J2 := Lib.hid (rjoin_any D2 L d2 v4 hd3 hd4 ((R2.out.keep (Alike.of_below hb4 (Nat.le_refl _))).more hb4.size) hwt)
      rw [HJ.out] at J2
      go_wp2_with fail
      refine J2.out.mono ?_; rintro e v5 ⟨rfl, rfl⟩
      go_wp2
      go_ret
      exact ⟨by simp, bl_step blr hb4⟩
end Go.Proofs.YtidpenifabojnaaDoor
