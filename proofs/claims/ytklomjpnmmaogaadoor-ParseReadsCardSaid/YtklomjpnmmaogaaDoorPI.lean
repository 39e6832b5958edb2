/- The walk of square. -/
import Derived.Test.YtklomjpnmmaogaaDoorPG
namespace Go.Proofs.YtklomjpnmmaogaaDoor
open Go Go.RowKit
set_option linter.unusedVariables false
set_option linter.unusedSimpArgs false
set_option maxRecDepth 100000

section
variable {w : World} {g c at_ : Nat} {A : Option Addr} {L : List Tok}
theorem word_kind {s : List UInt8} {l r : List Tok} {u : Unit} (h : wordP s l = .ok u r) : r = l.tail := by
  unfold wordP at h
  split at h
  · injection h with _ h; exact h.symm
  · unfold failP at h; cases h
set_option maxHeartbeats 6400000 in
theorem rsq_any (h : Rd w g A c L at_) (K : Int) : Calls Tryd.prog 78 #[.pointer (some ⟨g, 0, none⟩), .int .i64 K] w fun e w' => Rp w g A c L (squareP K (L.drop at_)) (KV w) e w' := by
  obtain ⟨T, hT⟩ : ∃ T, squareP K (L.drop at_) = T := ⟨_, rfl⟩
  rw [hT]
  unfold squareP at hT
  have hgl := h.gl
  have h0 := (h.below (bl_alloc (Below.refl _ _) (.cells #[.int .i64 0, .int .i64 0, .slice none 0 0, .slice none 0 0, .int .i64 0, .slice none 0 0] 27))).below (bl_alloc (Below.refl _ _) (.cells #[.int .i64 K, .int .i64 0, .slice none 0 0, .slice none 0 0, .int .i64 0, .slice none 0 0] 27))
  have R0 : Blk ((w.alloc (.cells #[.int .i64 0, .int .i64 0, .slice none 0 0, .slice none 0 0, .int .i64 0, .slice none 0 0] 27)).alloc (.cells #[.int .i64 K, .int .i64 0, .slice none 0 0, .slice none 0 0, .int .i64 0, .slice none 0 0] 27)) w.heap.size 27 #[.int .i64 0, .int .i64 0, .slice none 0 0, .slice none 0 0, .int .i64 0, .slice none 0 0] := (Blk.new _ _ _).alloc _
  have B0 : Blk ((w.alloc (.cells #[.int .i64 0, .int .i64 0, .slice none 0 0, .slice none 0 0, .int .i64 0, .slice none 0 0] 27)).alloc (.cells #[.int .i64 K, .int .i64 0, .slice none 0 0, .slice none 0 0, .int .i64 0, .slice none 0 0] 27)) (w.heap.size + 1) 27 #[.int .i64 K, .int .i64 0, .slice none 0 0, .slice none 0 0, .int .i64 0, .slice none 0 0] := Blk.new' (by simp) _ _
  have G0 := ((Gr.refl w g).alloc (.cells #[.int .i64 0, .int .i64 0, .slice none 0 0, .slice none 0 0, .int .i64 0, .slice none 0 0] 27)).alloc (.cells #[.int .i64 K, .int .i64 0, .slice none 0 0, .slice none 0 0, .int .i64 0, .slice none 0 0] 27)
  have HW := Lib.hid (rnum_any h0 1 64)
  have FR0 : FrR ((w.alloc (.cells #[.int .i64 0, .int .i64 0, .slice none 0 0, .slice none 0 0, .int .i64 0, .slice none 0 0] 27)).alloc (.cells #[.int .i64 K, .int .i64 0, .slice none 0 0, .slice none 0 0, .int .i64 0, .slice none 0 0] 27)) w g A c L (w.heap.size + 1) at_ #[.int .i64 K, .int .i64 0, .slice none 0 0, .slice none 0 0, .int .i64 0, .slice none 0 0] := ⟨G0, h0, R0, B0, Nat.lt_succ_self _, hgl⟩
  have hnum := fun v r => num_bd (lo := 1) (hi := 64) (l := L.drop at_) (v := v) (r := r)
  clear h h0 R0 B0 G0
  go_enter Tryd.func78, Tryd.ntmps78
  go_wp2_with fail
  refine HW.out.mono ?_; rintro e V2 ⟨hG1, ⟨_, _, _, hp, rfl⟩ | ⟨n, n2, hp, rfl, R2⟩⟩
  · rw [hp, PR.bind_bad] at hT
    exact ⟨rfl, FR0.gr.step hG1, .inl ⟨_, _, _, hT.symm, rfl⟩⟩
  · rw [hp, PR.bind_ok] at hT
    have hC := hnum _ _ hp
    have FR := FR0.meth hG1 R2
    obtain ⟨n, rfl⟩ : ∃ m : Nat, n = (m : Int) := ⟨n.toNat, by omega⟩
    rw [Int.toNat_natCast] at hT
    have hC1 : 1 ≤ n := by omega
    have hC2 : n ≤ 64 := by omega
    clear HW hp hG1 R2 hnum FR0 hC
    go_wp2_with fail
    go_loopw [16] (fun v16 wr => ∃ (i f at_ : Nat) (acc : List (List Int)) (D : Option Addr) (d : Nat), v16 = .int .i64 i ∧ FrR wr w g A c L (w.heap.size + 1) at_ #[.int .i64 K, .int .i64 0, .slice none 0 0, .slice D acc.length d, .int .i64 0, .slice none 0 0] ∧ OwnR wr (w.heap.size + 1 + 1) 88 2 (.slice D acc.length d) acc ∧ (rowsP K n f i acc (L.drop at_)).bind (fun rs l2 => .ok ⟨K, 0, [], rs, 0, []⟩ l2) = T ∧ i + f = n ∧ acc.length = i) (fun v16 _ => n - (intOf v16).toNat)
    case atStart => exact ⟨0, n, n2, [], none, 0, rfl, FR, r_nil _ _ _ _, hT, by omega, rfl⟩
    case round =>
      clear FR hT
      obtain ⟨i, f, at_, acc, D, d, rfl, FR, HO, hI, hif, hl⟩ := hrel
      have hrow : acc.length ≤ n := by omega
      have HL := Lib.hid hl
      clear hl
      by_cases hin : i < n
      · obtain ⟨f', rfl⟩ : ∃ f', f = f' + 1 := ⟨f - 1, by omega⟩
        rw [rowsP] at hI
        have i1 : (i : Int) < (n : Int) := by omega
        go_wp2_with fail
        refine (word_any FR.rd wRow).mono ?_; rintro e W0 ⟨hG1, ⟨_, _, _, hp, rfl⟩ | ⟨_, n3, hp, rfl, R3⟩⟩
        · rw [hp, PR.bind_bad] at hI
          exact ⟨rfl, FR.gr.step hG1, .inl ⟨_, _, _, hI.symm, rfl⟩⟩
        · rw [hp, PR.bind_ok] at hI
          have F0 := FR.meth hG1 R3
          have U0 := Lib.hid (HO.rd_ hG1 (by omega))
          have s0 := F0.size
          clear FR HO hG1 R3 hp
          go_wp2_with fail
          go_loopw [22, 8] (fun v22 v8 wr => ∃ (k f2 at_ : Nat) (row : List Int) (E : Option Addr) (e2 : Nat), v22 = .int .i64 k ∧ v8 = .slice E row.length e2 ∧ FrR wr w g A c L (w.heap.size + 1) at_ #[.int .i64 K, .int .i64 0, .slice none 0 0, .slice D acc.length d, .int .i64 0, .slice none 0 0] ∧ Gr W0 g wr ∧ wr.ownsRow W0.heap.size 2 1 (.slice E row.length e2) row.length (row.map (Value.int .i64)) ∧ ((rowP K i f2 k row (L.drop at_)).bind (fun r l2 => rowsP K n f' (i + 1) (acc ++ [r]) l2)).bind (fun rs l2 => .ok ⟨K, 0, [], rs, 0, []⟩ l2) = T ∧ k + f2 = n ∧ row.length = k) (fun v22 _ _ => n - (intOf v22).toNat)
          case atStart => exact ⟨0, n, n3, [], none, 0, rfl, rfl, F0, Gr.refl _ _, own_nil _ _ _ _, hI, by omega, rfl⟩
          case round =>
            clear F0 hI
            obtain ⟨k, f2, at_, row, E, e2, rfl, rfl, F1, G1, O1, hI, hkf, hrl⟩ := hrel
            have hrr : row.length ≤ n := by omega
            have HRL := Lib.hid hrl
            clear hrl
            by_cases hkn : k < n
            · obtain ⟨f3, rfl⟩ : ∃ f3, f2 = f3 + 1 := ⟨f2 - 1, by omega⟩
              rw [rowP] at hI
              have k1 : (k : Int) < (n : Int) := by omega
              have HA := Lib.hid (ahead_any F1.rd)
              have hdg : diagP K i k (L.drop at_) = (decide (K = 2) && (decide (i = k) && (decide ((headT (L.drop at_)).kind = 1) && (decide (¬ (headT (L.drop at_)).num = 0) && (decide (-2147483648 ≤ (headT (L.drop at_)).num) && decide ((headT (L.drop at_)).num ≤ 2147483648)))))) := rfl
              have HF := Lib.hid (fun (W : World) (hR : Rd W g A c L at_) => fail_any hR 4)
              have HI := Lib.hid hI
              obtain ⟨t, ht⟩ : ∃ t, headT (L.drop at_) = t := ⟨_, rfl⟩
              rw [ht] at HA HF hdg
              have HT := Lib.hid ht
              clear ht hI
              go_wp2_with fail
              refine HA.out.mono ?_; rintro e V1 ⟨rfl, hb1⟩
              have F2 := (F1.below hb1).below (bl_alloc (Below.refl _ _) (.cells #[.int .i64 t.kind, .string ⟨t.text.toArray⟩, .int .i64 t.num, .int .i64 t.line, .int .i64 t.col] 116))
              have G2 := (G1.below hb1).alloc (.cells #[.int .i64 t.kind, .string ⟨t.text.toArray⟩, .int .i64 t.num, .int .i64 t.line, .int .i64 t.col] 116)
              have O2 := own_below (own_below O1 hb1) (bl_alloc (Below.refl _ _) (.cells #[.int .i64 t.kind, .string ⟨t.text.toArray⟩, .int .i64 t.num, .int .i64 t.line, .int .i64 t.col] 116))
              clear F1 G1 O1 hb1 HA
              by_cases a1 : K = 2
              · have b1 : (K == 2) = true := by simpa using a1
                by_cases a2 : i = k
                · have b2 : ((i : Int) == (k : Int)) = true := by rw [a2]; simp
                  by_cases a3 : t.kind = 1
                  · have b3 : (t.kind == 1) = true := by simpa using a3
                    by_cases a4 : t.num = 0
                    · have b4 : (t.num != 0) = false := by simpa using a4
                      have hI := HI.out
                      rw [if_neg (by rw [hdg]; simp; exact fun _ _ _ h => absurd a4 h)] at hI
                      clear HI hdg HF HT a1 a2 a3 a4
                      go_wp2_with fail
                      refine (rnum_any F2.rd (-2147483648) 2147483648).mono ?_; rintro e V3 ⟨hG3, ⟨_, _, _, hp, rfl⟩ | ⟨v, n4, hp, rfl, R4⟩⟩
                      · rw [hp, PR.bind_bad, PR.bind_bad, PR.bind_bad] at hI
                        exact ⟨rfl, F2.gr.step hG3, .inl ⟨_, _, _, hI.symm, rfl⟩⟩
                      · rw [hp, PR.bind_ok] at hI
                        have F3 := F2.meth hG3 R4
                        have G3 := G2.step hG3
                        have O3 := own_rd O2 hG3 (by omega)
                        have NB : Blk (V3.alloc (.cells #[.int .i64 v] 2)) V3.heap.size 2 #[.int .i64 v] := Blk.new _ _ _
                        have bA := bl_alloc (Below.refl _ V3) (.cells #[.int .i64 v] 2)
                        have hs3 := G3.hs
                        obtain ⟨E4, e4, Y, hrun, O4, hgr⟩ := p_num (ty := 88) Tryd.underlying88 pinfo_I (own_below O3 bA) NB (by omega) (by omega) (by have := bA.size; omega)
                        have F4 := (F3.alloc (.cells #[.int .i64 v] 2)).grown (fun z hz => by have := own_base O3 z hz; omega) hgr
                        have G4 := (G3.alloc (.cells #[.int .i64 v] 2)).grown hgr (own_base O3)
                        clear F2 G2 O2 F3 G3 O3 NB bA hgr hs3 hp R4 hG3
                        go_wp2_with (at_builtin; refine list_app rfl (.tmp 54) (.tmp 57) 88 88 rfl (by exact hrun) ?_)
                        go_roundw
                        case rel => exact ⟨k + 1, f3, n4, row ++ [v], E4, e4, by go_num, by simp, F4, G4, by rw [List.length_append] at O4 ⊢; exact O4, hI, by omega, by rw [List.length_append, HRL.out]; rfl⟩
                        case measure => simp only [intOf]; omega
                    · have b4 : (t.num != 0) = true := by simpa using a4
                      by_cases a5 : -2147483648 ≤ t.num
                      · by_cases a6 : t.num ≤ 2147483648
                        · have hI := HI.out
                          rw [if_pos (by rw [hdg]; simp [a1, a2, a3, a4, a5, a6])] at hI
                          have ht := HT.out
                          clear HI hdg HT a1 a2 a3 a4
                          go_wp2_with fail
                          refine (HF.out _ F2.rd).mono ?_; rintro e V3 ⟨rfl, hb3⟩
                          exact ⟨rfl, F2.gr.below hb3, .inl ⟨_, _, _, by rw [← hI]; unfold failP; rw [ht]; rfl, rfl⟩⟩
                        · have b6 : ¬ t.num ≤ 2147483648 := a6
                          have hI := HI.out
                          rw [if_neg (by rw [hdg]; simp; omega)] at hI
                          clear HI hdg HF HT a1 a2 a3 a4
                          go_wp2_with fail
                          refine (rnum_any F2.rd (-2147483648) 2147483648).mono ?_; rintro e V3 ⟨hG3, ⟨_, _, _, hp, rfl⟩ | ⟨v, n4, hp, rfl, R4⟩⟩
                          · rw [hp, PR.bind_bad, PR.bind_bad, PR.bind_bad] at hI
                            exact ⟨rfl, F2.gr.step hG3, .inl ⟨_, _, _, hI.symm, rfl⟩⟩
                          · rw [hp, PR.bind_ok] at hI
                            have F3 := F2.meth hG3 R4
                            have G3 := G2.step hG3
                            have O3 := own_rd O2 hG3 (by omega)
                            have NB : Blk (V3.alloc (.cells #[.int .i64 v] 2)) V3.heap.size 2 #[.int .i64 v] := Blk.new _ _ _
                            have bA := bl_alloc (Below.refl _ V3) (.cells #[.int .i64 v] 2)
                            have hs3 := G3.hs
                            obtain ⟨E4, e4, Y, hrun, O4, hgr⟩ := p_num (ty := 88) Tryd.underlying88 pinfo_I (own_below O3 bA) NB (by omega) (by omega) (by have := bA.size; omega)
                            have F4 := (F3.alloc (.cells #[.int .i64 v] 2)).grown (fun z hz => by have := own_base O3 z hz; omega) hgr
                            have G4 := (G3.alloc (.cells #[.int .i64 v] 2)).grown hgr (own_base O3)
                            clear F2 G2 O2 F3 G3 O3 NB bA hgr hs3 hp R4 hG3
                            go_wp2_with (at_builtin; refine list_app rfl (.tmp 54) (.tmp 57) 88 88 rfl (by exact hrun) ?_)
                            go_roundw
                            case rel => exact ⟨k + 1, f3, n4, row ++ [v], E4, e4, by go_num, by simp, F4, G4, by rw [List.length_append] at O4 ⊢; exact O4, hI, by omega, by rw [List.length_append, HRL.out]; rfl⟩
                            case measure => simp only [intOf]; omega
                      · have b5 : ¬ -2147483648 ≤ t.num := a5
                        have hI := HI.out
                        rw [if_neg (by rw [hdg]; simp; omega)] at hI
                        clear HI hdg HF HT a1 a2 a3 a4
                        go_wp2_with fail
                        refine (rnum_any F2.rd (-2147483648) 2147483648).mono ?_; rintro e V3 ⟨hG3, ⟨_, _, _, hp, rfl⟩ | ⟨v, n4, hp, rfl, R4⟩⟩
                        · rw [hp, PR.bind_bad, PR.bind_bad, PR.bind_bad] at hI
                          exact ⟨rfl, F2.gr.step hG3, .inl ⟨_, _, _, hI.symm, rfl⟩⟩
                        · rw [hp, PR.bind_ok] at hI
                          have F3 := F2.meth hG3 R4
                          have G3 := G2.step hG3
                          have O3 := own_rd O2 hG3 (by omega)
                          have NB : Blk (V3.alloc (.cells #[.int .i64 v] 2)) V3.heap.size 2 #[.int .i64 v] := Blk.new _ _ _
                          have bA := bl_alloc (Below.refl _ V3) (.cells #[.int .i64 v] 2)
                          have hs3 := G3.hs
                          obtain ⟨E4, e4, Y, hrun, O4, hgr⟩ := p_num (ty := 88) Tryd.underlying88 pinfo_I (own_below O3 bA) NB (by omega) (by omega) (by have := bA.size; omega)
                          have F4 := (F3.alloc (.cells #[.int .i64 v] 2)).grown (fun z hz => by have := own_base O3 z hz; omega) hgr
                          have G4 := (G3.alloc (.cells #[.int .i64 v] 2)).grown hgr (own_base O3)
                          clear F2 G2 O2 F3 G3 O3 NB bA hgr hs3 hp R4 hG3
                          go_wp2_with (at_builtin; refine list_app rfl (.tmp 54) (.tmp 57) 88 88 rfl (by exact hrun) ?_)
                          go_roundw
                          case rel => exact ⟨k + 1, f3, n4, row ++ [v], E4, e4, by go_num, by simp, F4, G4, by rw [List.length_append] at O4 ⊢; exact O4, hI, by omega, by rw [List.length_append, HRL.out]; rfl⟩
                          case measure => simp only [intOf]; omega
                  · have b3 : (t.kind == 1) = false := by simpa using a3
                    have hI := HI.out
                    rw [if_neg (by rw [hdg]; simp; exact fun _ _ h => absurd h a3)] at hI
                    clear HI hdg HF HT a1 a2 a3
                    go_wp2_with fail
                    refine (rnum_any F2.rd (-2147483648) 2147483648).mono ?_; rintro e V3 ⟨hG3, ⟨_, _, _, hp, rfl⟩ | ⟨v, n4, hp, rfl, R4⟩⟩
                    · rw [hp, PR.bind_bad, PR.bind_bad, PR.bind_bad] at hI
                      exact ⟨rfl, F2.gr.step hG3, .inl ⟨_, _, _, hI.symm, rfl⟩⟩
                    · rw [hp, PR.bind_ok] at hI
                      have F3 := F2.meth hG3 R4
                      have G3 := G2.step hG3
                      have O3 := own_rd O2 hG3 (by omega)
                      have NB : Blk (V3.alloc (.cells #[.int .i64 v] 2)) V3.heap.size 2 #[.int .i64 v] := Blk.new _ _ _
                      have bA := bl_alloc (Below.refl _ V3) (.cells #[.int .i64 v] 2)
                      have hs3 := G3.hs
                      obtain ⟨E4, e4, Y, hrun, O4, hgr⟩ := p_num (ty := 88) Tryd.underlying88 pinfo_I (own_below O3 bA) NB (by omega) (by omega) (by have := bA.size; omega)
                      have F4 := (F3.alloc (.cells #[.int .i64 v] 2)).grown (fun z hz => by have := own_base O3 z hz; omega) hgr
                      have G4 := (G3.alloc (.cells #[.int .i64 v] 2)).grown hgr (own_base O3)
                      clear F2 G2 O2 F3 G3 O3 NB bA hgr hs3 hp R4 hG3
                      go_wp2_with (at_builtin; refine list_app rfl (.tmp 54) (.tmp 57) 88 88 rfl (by exact hrun) ?_)
                      go_roundw
                      case rel => exact ⟨k + 1, f3, n4, row ++ [v], E4, e4, by go_num, by simp, F4, G4, by rw [List.length_append] at O4 ⊢; exact O4, hI, by omega, by rw [List.length_append, HRL.out]; rfl⟩
                      case measure => simp only [intOf]; omega
                · have b2 : ((i : Int) == (k : Int)) = false := by simp; omega
                  have hI := HI.out
                  rw [if_neg (by rw [hdg]; simp; exact fun _ h => absurd h a2)] at hI
                  clear HI hdg HF HT a1 a2
                  go_wp2_with fail
                  refine (rnum_any F2.rd (-2147483648) 2147483648).mono ?_; rintro e V3 ⟨hG3, ⟨_, _, _, hp, rfl⟩ | ⟨v, n4, hp, rfl, R4⟩⟩
                  · rw [hp, PR.bind_bad, PR.bind_bad, PR.bind_bad] at hI
                    exact ⟨rfl, F2.gr.step hG3, .inl ⟨_, _, _, hI.symm, rfl⟩⟩
                  · rw [hp, PR.bind_ok] at hI
                    have F3 := F2.meth hG3 R4
                    have G3 := G2.step hG3
                    have O3 := own_rd O2 hG3 (by omega)
                    have NB : Blk (V3.alloc (.cells #[.int .i64 v] 2)) V3.heap.size 2 #[.int .i64 v] := Blk.new _ _ _
                    have bA := bl_alloc (Below.refl _ V3) (.cells #[.int .i64 v] 2)
                    have hs3 := G3.hs
                    obtain ⟨E4, e4, Y, hrun, O4, hgr⟩ := p_num (ty := 88) Tryd.underlying88 pinfo_I (own_below O3 bA) NB (by omega) (by omega) (by have := bA.size; omega)
                    have F4 := (F3.alloc (.cells #[.int .i64 v] 2)).grown (fun z hz => by have := own_base O3 z hz; omega) hgr
                    have G4 := (G3.alloc (.cells #[.int .i64 v] 2)).grown hgr (own_base O3)
                    clear F2 G2 O2 F3 G3 O3 NB bA hgr hs3 hp R4 hG3
                    go_wp2_with (at_builtin; refine list_app rfl (.tmp 54) (.tmp 57) 88 88 rfl (by exact hrun) ?_)
                    go_roundw
                    case rel => exact ⟨k + 1, f3, n4, row ++ [v], E4, e4, by go_num, by simp, F4, G4, by rw [List.length_append] at O4 ⊢; exact O4, hI, by omega, by rw [List.length_append, HRL.out]; rfl⟩
                    case measure => simp only [intOf]; omega
              · have b1 : (K == 2) = false := by simpa using a1
                have hI := HI.out
                rw [if_neg (by rw [hdg]; simp; exact fun h => absurd h a1)] at hI
                clear HI hdg HF HT a1
                go_wp2_with fail
                refine (rnum_any F2.rd (-2147483648) 2147483648).mono ?_; rintro e V3 ⟨hG3, ⟨_, _, _, hp, rfl⟩ | ⟨v, n4, hp, rfl, R4⟩⟩
                · rw [hp, PR.bind_bad, PR.bind_bad, PR.bind_bad] at hI
                  exact ⟨rfl, F2.gr.step hG3, .inl ⟨_, _, _, hI.symm, rfl⟩⟩
                · rw [hp, PR.bind_ok] at hI
                  have F3 := F2.meth hG3 R4
                  have G3 := G2.step hG3
                  have O3 := own_rd O2 hG3 (by omega)
                  have NB : Blk (V3.alloc (.cells #[.int .i64 v] 2)) V3.heap.size 2 #[.int .i64 v] := Blk.new _ _ _
                  have bA := bl_alloc (Below.refl _ V3) (.cells #[.int .i64 v] 2)
                  have hs3 := G3.hs
                  obtain ⟨E4, e4, Y, hrun, O4, hgr⟩ := p_num (ty := 88) Tryd.underlying88 pinfo_I (own_below O3 bA) NB (by omega) (by omega) (by have := bA.size; omega)
                  have F4 := (F3.alloc (.cells #[.int .i64 v] 2)).grown (fun z hz => by have := own_base O3 z hz; omega) hgr
                  have G4 := (G3.alloc (.cells #[.int .i64 v] 2)).grown hgr (own_base O3)
                  clear F2 G2 O2 F3 G3 O3 NB bA hgr hs3 hp R4 hG3
                  go_wp2_with (at_builtin; refine list_app rfl (.tmp 54) (.tmp 57) 88 88 rfl (by exact hrun) ?_)
                  go_roundw
                  case rel => exact ⟨k + 1, f3, n4, row ++ [v], E4, e4, by go_num, by simp, F4, G4, by rw [List.length_append] at O4 ⊢; exact O4, hI, by omega, by rw [List.length_append, HRL.out]; rfl⟩
                  case measure => simp only [intOf]; omega
            · obtain rfl : k = n := by omega
              obtain rfl : f2 = 0 := by omega
              have k1 : ¬ (k : Int) < (k : Int) := by omega
              have hI2 : (rowsP K k f' (i + 1) (acc ++ [row]) (L.drop at_)).bind (fun rs l2 => .ok ⟨K, 0, [], rs, 0, []⟩ l2) = T := hI
              clear hI hkn
              have U1 := U0.out.rd_ G1 (by omega)
              have NB : Blk (wr.alloc (.cells #[.slice E row.length e2] 88)) wr.heap.size 88 #[.slice E row.length e2] := Blk.new _ _ _
              have bA := bl_alloc (Below.refl _ wr) (.cells #[.slice E row.length e2] 88)
              obtain ⟨D3, d3, Y, hrun, Q3, hgr, how⟩ := p_row (ty := 24) Tryd.underlying24 (by decide) pinfo_R (U1.below bA) (own_below (own_more O1 s0) bA) NB (by omega) (F1.alloc _).size
              have M3 := (F1.alloc (.cells #[.slice E row.length e2] 88)).grown how hgr
              have MB := M3.box
              have FB := F1.box
              clear U1 NB bA hgr how G1 O1 F1
              have x_z : w.heap.size + 1 < wr.heap.size := FB.lt
              have x_c0 : wr.cell? ⟨w.heap.size + 1, 0, none⟩ = some (.int .i64 K) := (FB.cell 0).trans rfl
              have x_f0 := FB.frozen 0
              have x_c1 : wr.cell? ⟨w.heap.size + 1, 1, none⟩ = some (.int .i64 0) := (FB.cell 1).trans rfl
              have x_f1 := FB.frozen 1
              have x_c2 : wr.cell? ⟨w.heap.size + 1, 2, none⟩ = some (.slice none 0 0) := (FB.cell 2).trans rfl
              have x_f2 := FB.frozen 2
              have x_c3 : wr.cell? ⟨w.heap.size + 1, 3, none⟩ = some (.slice D acc.length d) := (FB.cell 3).trans rfl
              have x_f3 := FB.frozen 3
              have x_c4 : wr.cell? ⟨w.heap.size + 1, 4, none⟩ = some (.int .i64 0) := (FB.cell 4).trans rfl
              have x_f4 := FB.frozen 4
              have x_c5 : wr.cell? ⟨w.heap.size + 1, 5, none⟩ = some (.slice none 0 0) := (FB.cell 5).trans rfl
              have x_f5 := FB.frozen 5
              have y_z : w.heap.size + 1 < Y.heap.size := MB.lt
              have y_c0 : Y.cell? ⟨w.heap.size + 1, 0, none⟩ = some (.int .i64 K) := (MB.cell 0).trans rfl
              have y_f0 := MB.frozen 0
              have y_c1 : Y.cell? ⟨w.heap.size + 1, 1, none⟩ = some (.int .i64 0) := (MB.cell 1).trans rfl
              have y_f1 := MB.frozen 1
              have y_c2 : Y.cell? ⟨w.heap.size + 1, 2, none⟩ = some (.slice none 0 0) := (MB.cell 2).trans rfl
              have y_f2 := MB.frozen 2
              have y_c3 : Y.cell? ⟨w.heap.size + 1, 3, none⟩ = some (.slice D acc.length d) := (MB.cell 3).trans rfl
              have y_f3 := MB.frozen 3
              have y_c4 : Y.cell? ⟨w.heap.size + 1, 4, none⟩ = some (.int .i64 0) := (MB.cell 4).trans rfl
              have y_f4 := MB.frozen 4
              have y_c5 : Y.cell? ⟨w.heap.size + 1, 5, none⟩ = some (.slice none 0 0) := (MB.cell 5).trans rfl
              have y_f5 := MB.frozen 5
              go_wp2_with (at_builtin; refine list_app rfl (.tmp 61) (.tmp 63) 24 24 rfl (by exact hrun) ?_; clear hrun x_z x_c0 x_c1 x_c2 x_c3 x_c4 x_c5 x_f0 x_f1 x_f2 x_f3 x_f4 x_f5)
              go_roundw
              case rel => exact ⟨i + 1, f', at_, acc ++ [row], D3, d3, by go_num, by rw [List.length_append]; exact M3.put 3 _ rfl, by rw [List.length_append]; exact OwnR.set (p := ⟨w.heap.size + 1, 3, none⟩) Q3 (Nat.lt_succ_self _) _, hI2, by omega, by rw [List.length_append, HL.out]; rfl⟩
              case measure => simp only [intOf]; omega
      · obtain rfl : f = 0 := by omega
        have hI2 : T = .ok ⟨K, 0, [], acc, 0, []⟩ (L.drop at_) := hI.symm
        have i1 : ¬ (i : Int) < (n : Int) := by omega
        have e1 : ¬ w.heap.size + 1 = w.heap.size := by omega
        have e2 : ¬ w.heap.size = w.heap.size + 1 := by omega
        clear hI
        have FB := FR.box
        have ZB := FR.res
        have x_z : w.heap.size + 1 < wr.heap.size := FB.lt
        have x_c0 : wr.cell? ⟨w.heap.size + 1, 0, none⟩ = some (.int .i64 K) := (FB.cell 0).trans rfl
        have x_f0 := FB.frozen 0
        have x_c1 : wr.cell? ⟨w.heap.size + 1, 1, none⟩ = some (.int .i64 0) := (FB.cell 1).trans rfl
        have x_f1 := FB.frozen 1
        have x_c2 : wr.cell? ⟨w.heap.size + 1, 2, none⟩ = some (.slice none 0 0) := (FB.cell 2).trans rfl
        have x_f2 := FB.frozen 2
        have x_c3 : wr.cell? ⟨w.heap.size + 1, 3, none⟩ = some (.slice D acc.length d) := (FB.cell 3).trans rfl
        have x_f3 := FB.frozen 3
        have x_c4 : wr.cell? ⟨w.heap.size + 1, 4, none⟩ = some (.int .i64 0) := (FB.cell 4).trans rfl
        have x_f4 := FB.frozen 4
        have x_c5 : wr.cell? ⟨w.heap.size + 1, 5, none⟩ = some (.slice none 0 0) := (FB.cell 5).trans rfl
        have x_f5 := FB.frozen 5
        have z_z : w.heap.size < wr.heap.size := ZB.lt
        have z_c0 : wr.cell? ⟨w.heap.size, 0, none⟩ = some (.int .i64 0) := (ZB.cell 0).trans rfl
        have z_f0 := ZB.frozen 0
        have z_c1 : wr.cell? ⟨w.heap.size, 1, none⟩ = some (.int .i64 0) := (ZB.cell 1).trans rfl
        have z_f1 := ZB.frozen 1
        have z_c2 : wr.cell? ⟨w.heap.size, 2, none⟩ = some (.slice none 0 0) := (ZB.cell 2).trans rfl
        have z_f2 := ZB.frozen 2
        have z_c3 : wr.cell? ⟨w.heap.size, 3, none⟩ = some (.slice none 0 0) := (ZB.cell 3).trans rfl
        have z_f3 := ZB.frozen 3
        have z_c4 : wr.cell? ⟨w.heap.size, 4, none⟩ = some (.int .i64 0) := (ZB.cell 4).trans rfl
        have z_f4 := ZB.frozen 4
        have z_c5 : wr.cell? ⟨w.heap.size, 5, none⟩ = some (.slice none 0 0) := (ZB.cell 5).trans rfl
        have z_f5 := ZB.frozen 5
        go_wp2_with fail
        refine bodyPost_ret (v := .agg #[.int .i64 K, .int .i64 0, .slice none 0 0, .slice D acc.length d, .int .i64 0, .slice none 0 0]) (by simp [results, Tryd.results78, go_sem, e1, e2, z_z, z_c0, z_c1, z_c2, z_c3, z_c4, z_c5, z_f0, z_f1, z_f2, z_f3, z_f4, z_f5]) rfl ?_
        exact FR.fin (I := ⟨K, 0, [], acc, 0, []⟩) (D1 := none) (d1 := 0) (D3 := none) (d3 := 0) rfl ⟨own_nil _ _ _ _, HO, s_nil _ _ _ _⟩ (by first | exact hI2 | rfl)
end
end Go.Proofs.YtklomjpnmmaogaaDoor
