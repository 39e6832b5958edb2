/- The document's square. -/
import Derived.Test.YtklomjpnmmaogaaDoorFC
import Derived.LoopTactic
namespace Go.Proofs.YtklomjpnmmaogaaDoor
open Go Go.RowKit
set_option linter.unusedVariables false
set_option linter.unusedSimpArgs false
set_option maxRecDepth 100000

theorem diag_num {K : Int} {i k : Nat} {l : List Tok} (h : diagP K i k l = true) : numP (-2147483648) 2147483648 l = .ok (headT l).num l.tail ∧ K = 2 ∧ i = k ∧ ¬ (headT l).num = 0 := by
  simp only [diagP, Bool.and_eq_true, decide_eq_true_eq] at h
  obtain ⟨h1, h2, h3, h4, h5, h6⟩ := h
  refine ⟨?_, h1, h2, h4⟩
  unfold numP
  rw [if_pos h3, if_neg (by omega)]
theorem num_val {lo hi v : Int} {l r : List Tok} (h : numP lo hi l = .ok v r) : v = (headT l).num ∧ (headT l).kind = 1 ∧ lo ≤ v ∧ v ≤ hi := by
  unfold numP at h
  split at h
  · rename_i hk
    split at h
    · cases h
    · injection h with h1 _
      exact ⟨h1.symm, hk, by omega, by omega⟩
  · cases h
theorem agr_bad {α : Type} {L : List Tok} {at_ : Nat} {er : Int} {v x : α} {p : PR α} {r : List Tok} (h : Agr L at_ er v p) (he : ¬ er = 0) (hp : p = .ok x r) : False := by
  rcases h with ⟨z, _⟩ | ⟨_, z⟩
  · exact he z
  · rw [hp] at z; cases z
section
variable {w : World} {g c at_ : Nat} {A : Option Addr} {L : List Tok}
set_option maxHeartbeats 12800000 in
theorem fsq_any (h : Rf w g A c L at_ 0) (K : Int) : Calls Tryd.prog 26 #[.pointer (some ⟨g, 0, none⟩), .int .i64 K] w fun e w' => FkPost w g A c L (squareP K (L.drop at_)) e w' := by
  obtain ⟨T, hT⟩ : ∃ T, squareP K (L.drop at_) = T := ⟨_, rfl⟩
  rw [hT]
  unfold squareP at hT
  have S0 := Lib.hid (St.start (L := L) (at_ := at_) hT)
  have hgl := h.gl
  have h0 := (h.below (bl_alloc (Below.refl _ _) (.cells #[.int .i64 0, .int .i64 0, .slice none 0 0, .slice none 0 0, .int .i64 0, .slice none 0 0] 36))).below (bl_alloc (Below.refl _ _) (.cells #[.int .i64 K, .int .i64 0, .slice none 0 0, .slice none 0 0, .int .i64 0, .slice none 0 0] 36))
  have R0 : Blk ((w.alloc (.cells #[.int .i64 0, .int .i64 0, .slice none 0 0, .slice none 0 0, .int .i64 0, .slice none 0 0] 36)).alloc (.cells #[.int .i64 K, .int .i64 0, .slice none 0 0, .slice none 0 0, .int .i64 0, .slice none 0 0] 36)) w.heap.size 36 #[.int .i64 0, .int .i64 0, .slice none 0 0, .slice none 0 0, .int .i64 0, .slice none 0 0] := (Blk.new _ _ _).alloc _
  have B0 : Blk ((w.alloc (.cells #[.int .i64 0, .int .i64 0, .slice none 0 0, .slice none 0 0, .int .i64 0, .slice none 0 0] 36)).alloc (.cells #[.int .i64 K, .int .i64 0, .slice none 0 0, .slice none 0 0, .int .i64 0, .slice none 0 0] 36)) (w.heap.size + 1) 36 #[.int .i64 K, .int .i64 0, .slice none 0 0, .slice none 0 0, .int .i64 0, .slice none 0 0] := Blk.new' (by simp) _ _
  have F0 : FrF ((w.alloc (.cells #[.int .i64 0, .int .i64 0, .slice none 0 0, .slice none 0 0, .int .i64 0, .slice none 0 0] 36)).alloc (.cells #[.int .i64 K, .int .i64 0, .slice none 0 0, .slice none 0 0, .int .i64 0, .slice none 0 0] 36)) w g A c L (w.heap.size + 1) at_ 0 #[.int .i64 K, .int .i64 0, .slice none 0 0, .slice none 0 0, .int .i64 0, .slice none 0 0] := ⟨((Gr.refl w g).alloc _).alloc _, h0, R0, B0, Nat.lt_succ_self _, hgl⟩
  clear h h0 R0 B0 hT
  go_enter Tryd.func26, Tryd.ntmps26
  go_wp2_with fail
  refine (fnum_any F0.rf 1 64).mono ?_; rintro e V1 ⟨n, at1, er1, rfl, k1⟩
  have F1 := F0.call k1
  have S1 : Hid (St L at1 er1 T ((rowsP K n.toNat n.toNat 0 [] (L.drop at1)).bind (fun rs l2 => .ok ⟨K, 0, [], rs, 0, []⟩ l2))) := Lib.hid (S0.out.bind k1)
  have N1 : Hid (er1 = 0 → 1 ≤ n ∧ n ≤ 64 ∧ ((0 : Nat) : Int) + (n.toNat : Int) = n) := Lib.hid (fun h => by have := num_bd (k1.z h).2; omega)
  clear F0 S0 k1
  go_wp2_with fail
  go_loopw [7] (fun v7 wr => ∃ (i f at_ : Nat) (er : Int) (acc : List (List Int)) (D : Option Addr) (d : Nat), v7 = .int .i64 i ∧ FrF wr w g A c L (w.heap.size + 1) at_ er #[.int .i64 K, .int .i64 0, .slice none 0 0, .slice D acc.length d, .int .i64 0, .slice none 0 0] ∧ OwnR wr (w.heap.size + 1 + 1) 88 2 (.slice D acc.length d) acc ∧ Hid (St L at_ er T ((rowsP K n.toNat f i acc (L.drop at_)).bind (fun rs l2 => .ok ⟨K, 0, [], rs, 0, []⟩ l2))) ∧ Hid (er = 0 → 1 ≤ n ∧ n ≤ 64 ∧ (i : Int) + (f : Int) = n) ∧ i ≤ 64 ∧ Hid (acc.length = i)) (fun v7 _ => n.toNat - (intOf v7).toNat)
  case atStart => exact ⟨0, n.toNat, at1, er1, [], none, 0, rfl, F1, r_nil _ _ _ _, S1, N1, by omega, Lib.hid rfl⟩
  case round =>
    clear F1 S1 N1
    obtain ⟨i, f, at_, er, acc, D, d, rfl, FR, HO, HS, HN, hi64, HL⟩ := hrel
    have BS := FR.rf.box
    by_cases hin : (i : Int) < n
    · by_cases h0 : er = 0
      · subst h0
        obtain ⟨n1, n2, n3⟩ := HN.out rfl
        obtain ⟨nn, rfl⟩ : ∃ m : Nat, n = (m : Int) := ⟨n.toNat, by omega⟩
        obtain ⟨f', rfl⟩ : ∃ f', f = f' + 1 := ⟨f - 1, by omega⟩
        have hS := HS.out
        rw [Int.toNat_natCast, rowsP, PR.assoc] at hS
        replace hS := Lib.hid hS
        have hif : i + (f' + 1) = nn := by omega
        have hnn : nn ≤ 64 := by omega
        clear HS HN n1 n2 n3
        have s_z : g < wr.heap.size := BS.lt
        have s_c0 : wr.cell? ⟨g, 0, none⟩ = some (.slice A L.length c) := (BS.cell 0).trans rfl
        have s_f0 := BS.frozen 0
        have s_c1 : wr.cell? ⟨g, 1, none⟩ = some (.int .i64 at_) := (BS.cell 1).trans rfl
        have s_f1 := BS.frozen 1
        have s_c2 : wr.cell? ⟨g, 2, none⟩ = some (.int .i64 0) := (BS.cell 2).trans rfl
        have s_f2 := BS.frozen 2
        go_wp2_with fail
        clear s_z s_c0 s_f0 s_c1 s_f1 s_c2 s_f2 BS
        refine (fword_any FR.rf wRow).mono ?_; rintro e W0 ⟨at3, er3, rfl, k3⟩
        have F0 := FR.call k3
        have U0 := Lib.hid (HO.rd_ k3.gr (by omega))
        have S3 : Hid (St L at3 er3 T (((rowP K i nn 0 [] (L.drop at3)).bind fun r l2 => rowsP K nn f' (i + 1) (acc ++ [r]) l2).bind (fun rs l2 => .ok ⟨K, 0, [], rs, 0, []⟩ l2))) := Lib.hid (hS.out.bind k3)
        have s0 := F0.size
        clear FR HO k3 hS
        go_wp2_with fail
        go_loopw [9, 8] (fun v9 v8 wr => ∃ (k f2 at_ : Nat) (er : Int) (row : List Int) (E : Option Addr) (e2 : Nat), v9 = .int .i64 k ∧ v8 = .slice E row.length e2 ∧ FrF wr w g A c L (w.heap.size + 1) at_ er #[.int .i64 K, .int .i64 0, .slice none 0 0, .slice D acc.length d, .int .i64 0, .slice none 0 0] ∧ Gr W0 g wr ∧ wr.ownsRow W0.heap.size 2 1 (.slice E row.length e2) row.length (row.map (Value.int .i64)) ∧ Hid (St L at_ er T (((rowP K i f2 k row (L.drop at_)).bind fun r l2 => rowsP K nn f' (i + 1) (acc ++ [r]) l2).bind (fun rs l2 => .ok ⟨K, 0, [], rs, 0, []⟩ l2))) ∧ k + f2 = nn ∧ Hid (row.length = k)) (fun v9 _ _ => nn - (intOf v9).toNat)
        case atStart => exact ⟨0, nn, at3, er3, [], none, 0, rfl, rfl, F0, Gr.refl _ _, own_nil _ _ _ _, S3, by omega, Lib.hid rfl⟩
        case round =>
          clear F0 S3
          obtain ⟨k, f2, at_, er, row, E, e2, rfl, rfl, F1, G1, O1, HS, hkf, HRL⟩ := hrel
          have hrr : row.length ≤ nn := by have := HRL.out; omega
          have haa : acc.length ≤ 64 := by have := HL.out; omega
          have BS := F1.rf.box
          by_cases hkn : k < nn
          · have k1 : (k : Int) < (nn : Int) := by omega
            by_cases h0 : er = 0
            · subst h0
              obtain ⟨f3, rfl⟩ : ∃ f3, f2 = f3 + 1 := ⟨f2 - 1, by omega⟩
              have hS := HS.out
              rw [rowP] at hS
              replace hS := Lib.hid hS
              have hends := F1.rf.ends
              clear HS
              have s_z : g < wr.heap.size := BS.lt
              have s_c0 : wr.cell? ⟨g, 0, none⟩ = some (.slice A L.length c) := (BS.cell 0).trans rfl
              have s_f0 := BS.frozen 0
              have s_c1 : wr.cell? ⟨g, 1, none⟩ = some (.int .i64 at_) := (BS.cell 1).trans rfl
              have s_f1 := BS.frozen 1
              have s_c2 : wr.cell? ⟨g, 2, none⟩ = some (.int .i64 0) := (BS.cell 2).trans rfl
              have s_f2 := BS.frozen 2
              go_wp2_with fail
              refine (fnum_any F1.rf (-2147483648) 2147483648).mono ?_; rintro e V2 ⟨v, at4, er4, rfl, k4⟩
              have F2 := F1.call k4
              have G2 := G1.step k4.gr
              have O2 := own_rd O1 k4.gr (by omega)
              have BS2 := F2.rf.box
              clear s_z s_c0 s_f0 s_c1 s_f1 s_c2 s_f2 BS F1 G1 O1
              by_cases e40 : er4 = 0
              · subst e40
                have hv := num_val (k4.z rfl).2
                by_cases a1 : K = 2
                · by_cases a2 : i = k
                  · by_cases a3 : v = 0
                    · have b3 : (v != 0) = false := by simpa using a3
                      have b2 : ((i : Int) == (k : Int)) = true := by rw [a2]; simp
                      have b1 : (K == 2) = true := by simpa using a1
                      have S5 : Hid (St L at4 0 T (((rowP K i f3 (k + 1) (row ++ [v]) (L.drop at4)).bind fun r l2 => rowsP K nn f' (i + 1) (acc ++ [r]) l2).bind (fun rs l2 => .ok ⟨K, 0, [], rs, 0, []⟩ l2))) := by
                        have hS2 := hS.out
                        rw [if_neg (fun hd => by have hd := diag_num hd; exact hd.2.2.2 (hv.1.symm.trans a3)), PR.assoc, PR.assoc] at hS2
                        have := hS2.bind k4
                        rw [← PR.assoc] at this
                        exact Lib.hid this
                      clear hS k4 hv a1 a2 a3
                      have s_z : g < V2.heap.size := BS2.lt
                      have s_c0 : V2.cell? ⟨g, 0, none⟩ = some (.slice A L.length c) := (BS2.cell 0).trans rfl
                      have s_f0 := BS2.frozen 0
                      have s_c1 : V2.cell? ⟨g, 1, none⟩ = some (.int .i64 at4) := (BS2.cell 1).trans rfl
                      have s_f1 := BS2.frozen 1
                      have s_c2 : V2.cell? ⟨g, 2, none⟩ = some (.int .i64 0) := (BS2.cell 2).trans rfl
                      have s_f2 := BS2.frozen 2
                      have NB : Blk (V2.alloc (.cells #[.int .i64 v] 2)) V2.heap.size 2 #[.int .i64 v] := Blk.new _ _ _
                      have bA := bl_alloc (Below.refl _ V2) (.cells #[.int .i64 v] 2)
                      have hs3 := G2.hs
                      obtain ⟨E4, e4, Y, hrun, O4, hgr⟩ := p_num (ty := 88) Tryd.underlying88 pinfo_I (own_below O2 bA) NB (by omega) (by omega) (by have := bA.size; omega)
                      have F4 := (F2.alloc (.cells #[.int .i64 v] 2)).grown (fun z hz => by have := own_base O2 z hz; omega) hgr
                      have G4 := (G2.alloc (.cells #[.int .i64 v] 2)).grown hgr (own_base O2)
                      clear F2 G2 O2 NB bA hgr hs3
                      go_wp2_with (at_builtin; refine list_app rfl (.tmp 72) (.tmp 74) 88 88 rfl (by exact hrun) ?_)
                      go_roundw
                      case rel => exact ⟨k + 1, f3, at4, 0, row ++ [v], E4, e4, by go_num, by simp, F4, G4, by rw [List.length_append] at O4 ⊢; exact O4, S5, by omega, Lib.hid (by rw [List.length_append, HRL.out]; rfl)⟩
                      case measure => simp only [intOf]; omega
                    · have b3 : (v != 0) = true := by simpa using a3
                      have b2 : ((i : Int) == (k : Int)) = true := by rw [a2]; simp
                      have b1 : (K == 2) = true := by simpa using a1
                      have SD : Hid (∀ X, St L at_ 4 T X) := by
                        have hS2 := hS.out
                        rw [if_pos (by simp only [diagP, Bool.and_eq_true, decide_eq_true_eq]; rw [← hv.1]; exact ⟨a1, a2, hv.2.1, a3, hv.2.2⟩), PR.assoc] at hS2
                        exact Lib.hid (fun X => hS2.failb (by decide))
                      have F5 := F2.back hends
                      have G5 := G2.set (p := ⟨g, 1, none⟩) (.inl rfl) (.int .i64 at_)
                      have O5 := own_rd O2 ((Gr.refl V2 g).set (p := ⟨g, 1, none⟩) (.inl rfl) (.int .i64 at_)) (by omega)
                      clear hS k4 hv a1 a2 a3 F2 G2 O2
                      have s_z : g < V2.heap.size := BS2.lt
                      have s_c0 : V2.cell? ⟨g, 0, none⟩ = some (.slice A L.length c) := (BS2.cell 0).trans rfl
                      have s_f0 := BS2.frozen 0
                      have s_c1 : V2.cell? ⟨g, 1, none⟩ = some (.int .i64 at4) := (BS2.cell 1).trans rfl
                      have s_f1 := BS2.frozen 1
                      have s_c2 : V2.cell? ⟨g, 2, none⟩ = some (.int .i64 0) := (BS2.cell 2).trans rfl
                      have s_f2 := BS2.frozen 2
                      go_wp2_with fail
                      clear s_z s_c0 s_f0 s_c1 s_f1 s_c2 s_f2 BS2
                      generalize V2.setCell ⟨g, 1, none⟩ (.int .i64 at_) = V3 at F5 G5 O5 ⊢
                      refine (ffail_any F5.rf 4).mono ?_; rintro e V6 ⟨rfl, hG6, R6⟩
                      rw [if_pos rfl] at R6
                      have F6 := F5.meth hG6 R6
                      have G6 := G5.step hG6
                      have O6 := own_rd O5 hG6 (by omega)
                      have S5 : Hid (St L at_ 4 T (((rowP K i f3 (k + 1) (row ++ [v]) (L.drop at_)).bind fun r l2 => rowsP K nn f' (i + 1) (acc ++ [r]) l2).bind (fun rs l2 => .ok ⟨K, 0, [], rs, 0, []⟩ l2))) := Lib.hid (SD.out _)
                      clear F5 G5 O5 hG6 R6 SD
                      have NB : Blk (V6.alloc (.cells #[.int .i64 v] 2)) V6.heap.size 2 #[.int .i64 v] := Blk.new _ _ _
                      have bA := bl_alloc (Below.refl _ V6) (.cells #[.int .i64 v] 2)
                      have hs3 := G6.hs
                      obtain ⟨E4, e4, Y, hrun, O4, hgr⟩ := p_num (ty := 88) Tryd.underlying88 pinfo_I (own_below O6 bA) NB (by omega) (by omega) (by have := bA.size; omega)
                      have F4 := (F6.alloc (.cells #[.int .i64 v] 2)).grown (fun z hz => by have := own_base O6 z hz; omega) hgr
                      have G4 := (G6.alloc (.cells #[.int .i64 v] 2)).grown hgr (own_base O6)
                      clear F6 G6 O6 NB bA hgr hs3
                      go_wp2_with (at_builtin; refine list_app rfl (.tmp 72) (.tmp 74) 88 88 rfl (by exact hrun) ?_)
                      go_roundw
                      case rel => exact ⟨k + 1, f3, at_, 4, row ++ [v], E4, e4, by go_num, by simp, F4, G4, by rw [List.length_append] at O4 ⊢; exact O4, S5, by omega, Lib.hid (by rw [List.length_append, HRL.out]; rfl)⟩
                      case measure => simp only [intOf]; omega
                  · have b2 : ((i : Int) == (k : Int)) = false := by simp; omega
                    have b1 : (K == 2) = true := by simpa using a1
                    have S5 : Hid (St L at4 0 T (((rowP K i f3 (k + 1) (row ++ [v]) (L.drop at4)).bind fun r l2 => rowsP K nn f' (i + 1) (acc ++ [r]) l2).bind (fun rs l2 => .ok ⟨K, 0, [], rs, 0, []⟩ l2))) := by
                      have hS2 := hS.out
                      rw [if_neg (fun hd => by have hd := diag_num hd; exact a2 hd.2.2.1), PR.assoc, PR.assoc] at hS2
                      have := hS2.bind k4
                      rw [← PR.assoc] at this
                      exact Lib.hid this
                    clear hS k4 hv a1 a2
                    have s_z : g < V2.heap.size := BS2.lt
                    have s_c0 : V2.cell? ⟨g, 0, none⟩ = some (.slice A L.length c) := (BS2.cell 0).trans rfl
                    have s_f0 := BS2.frozen 0
                    have s_c1 : V2.cell? ⟨g, 1, none⟩ = some (.int .i64 at4) := (BS2.cell 1).trans rfl
                    have s_f1 := BS2.frozen 1
                    have s_c2 : V2.cell? ⟨g, 2, none⟩ = some (.int .i64 0) := (BS2.cell 2).trans rfl
                    have s_f2 := BS2.frozen 2
                    have NB : Blk (V2.alloc (.cells #[.int .i64 v] 2)) V2.heap.size 2 #[.int .i64 v] := Blk.new _ _ _
                    have bA := bl_alloc (Below.refl _ V2) (.cells #[.int .i64 v] 2)
                    have hs3 := G2.hs
                    obtain ⟨E4, e4, Y, hrun, O4, hgr⟩ := p_num (ty := 88) Tryd.underlying88 pinfo_I (own_below O2 bA) NB (by omega) (by omega) (by have := bA.size; omega)
                    have F4 := (F2.alloc (.cells #[.int .i64 v] 2)).grown (fun z hz => by have := own_base O2 z hz; omega) hgr
                    have G4 := (G2.alloc (.cells #[.int .i64 v] 2)).grown hgr (own_base O2)
                    clear F2 G2 O2 NB bA hgr hs3
                    go_wp2_with (at_builtin; refine list_app rfl (.tmp 72) (.tmp 74) 88 88 rfl (by exact hrun) ?_)
                    go_roundw
                    case rel => exact ⟨k + 1, f3, at4, 0, row ++ [v], E4, e4, by go_num, by simp, F4, G4, by rw [List.length_append] at O4 ⊢; exact O4, S5, by omega, Lib.hid (by rw [List.length_append, HRL.out]; rfl)⟩
                    case measure => simp only [intOf]; omega
                · have b1 : (K == 2) = false := by simpa using a1
                  have S5 : Hid (St L at4 0 T (((rowP K i f3 (k + 1) (row ++ [v]) (L.drop at4)).bind fun r l2 => rowsP K nn f' (i + 1) (acc ++ [r]) l2).bind (fun rs l2 => .ok ⟨K, 0, [], rs, 0, []⟩ l2))) := by
                    have hS2 := hS.out
                    rw [if_neg (fun hd => by have hd := diag_num hd; exact a1 hd.2.1), PR.assoc, PR.assoc] at hS2
                    have := hS2.bind k4
                    rw [← PR.assoc] at this
                    exact Lib.hid this
                  clear hS k4 hv a1
                  have s_z : g < V2.heap.size := BS2.lt
                  have s_c0 : V2.cell? ⟨g, 0, none⟩ = some (.slice A L.length c) := (BS2.cell 0).trans rfl
                  have s_f0 := BS2.frozen 0
                  have s_c1 : V2.cell? ⟨g, 1, none⟩ = some (.int .i64 at4) := (BS2.cell 1).trans rfl
                  have s_f1 := BS2.frozen 1
                  have s_c2 : V2.cell? ⟨g, 2, none⟩ = some (.int .i64 0) := (BS2.cell 2).trans rfl
                  have s_f2 := BS2.frozen 2
                  have NB : Blk (V2.alloc (.cells #[.int .i64 v] 2)) V2.heap.size 2 #[.int .i64 v] := Blk.new _ _ _
                  have bA := bl_alloc (Below.refl _ V2) (.cells #[.int .i64 v] 2)
                  have hs3 := G2.hs
                  obtain ⟨E4, e4, Y, hrun, O4, hgr⟩ := p_num (ty := 88) Tryd.underlying88 pinfo_I (own_below O2 bA) NB (by omega) (by omega) (by have := bA.size; omega)
                  have F4 := (F2.alloc (.cells #[.int .i64 v] 2)).grown (fun z hz => by have := own_base O2 z hz; omega) hgr
                  have G4 := (G2.alloc (.cells #[.int .i64 v] 2)).grown hgr (own_base O2)
                  clear F2 G2 O2 NB bA hgr hs3
                  go_wp2_with (at_builtin; refine list_app rfl (.tmp 72) (.tmp 74) 88 88 rfl (by exact hrun) ?_)
                  go_roundw
                  case rel => exact ⟨k + 1, f3, at4, 0, row ++ [v], E4, e4, by go_num, by simp, F4, G4, by rw [List.length_append] at O4 ⊢; exact O4, S5, by omega, Lib.hid (by rw [List.length_append, HRL.out]; rfl)⟩
                  case measure => simp only [intOf]; omega
              · have b0 : (er4 == 0) = false := by simpa using e40
                have S5 : Hid (St L at4 er4 T (((rowP K i f3 (k + 1) (row ++ [v]) (L.drop at4)).bind fun r l2 => rowsP K nn f' (i + 1) (acc ++ [r]) l2).bind (fun rs l2 => .ok ⟨K, 0, [], rs, 0, []⟩ l2))) := by
                  have hS2 := hS.out
                  rw [if_neg (fun hd => by have hd := diag_num hd; exact agr_bad (k4.step rfl) e40 hd.1), PR.assoc, PR.assoc] at hS2
                  have := hS2.bind k4
                  rw [← PR.assoc] at this
                  exact Lib.hid this
                clear hS k4 e40
                have s_z : g < V2.heap.size := BS2.lt
                have s_c0 : V2.cell? ⟨g, 0, none⟩ = some (.slice A L.length c) := (BS2.cell 0).trans rfl
                have s_f0 := BS2.frozen 0
                have s_c1 : V2.cell? ⟨g, 1, none⟩ = some (.int .i64 at4) := (BS2.cell 1).trans rfl
                have s_f1 := BS2.frozen 1
                have s_c2 : V2.cell? ⟨g, 2, none⟩ = some (.int .i64 er4) := (BS2.cell 2).trans rfl
                have s_f2 := BS2.frozen 2
                have NB : Blk (V2.alloc (.cells #[.int .i64 v] 2)) V2.heap.size 2 #[.int .i64 v] := Blk.new _ _ _
                have bA := bl_alloc (Below.refl _ V2) (.cells #[.int .i64 v] 2)
                have hs3 := G2.hs
                obtain ⟨E4, e4, Y, hrun, O4, hgr⟩ := p_num (ty := 88) Tryd.underlying88 pinfo_I (own_below O2 bA) NB (by omega) (by omega) (by have := bA.size; omega)
                have F4 := (F2.alloc (.cells #[.int .i64 v] 2)).grown (fun z hz => by have := own_base O2 z hz; omega) hgr
                have G4 := (G2.alloc (.cells #[.int .i64 v] 2)).grown hgr (own_base O2)
                clear F2 G2 O2 NB bA hgr hs3
                go_wp2_with (at_builtin; refine list_app rfl (.tmp 72) (.tmp 74) 88 88 rfl (by exact hrun) ?_)
                go_roundw
                case rel => exact ⟨k + 1, f3, at4, er4, row ++ [v], E4, e4, by go_num, by simp, F4, G4, by rw [List.length_append] at O4 ⊢; exact O4, S5, by omega, Lib.hid (by rw [List.length_append, HRL.out]; rfl)⟩
                case measure => simp only [intOf]; omega
            · have b0 : (er == 0) = false := by simpa using h0
              have HS2 : Hid (St L at_ er T ((rowsP K nn f' (i + 1) (acc ++ [row]) (L.drop at_)).bind (fun rs l2 => .ok ⟨K, 0, [], rs, 0, []⟩ l2))) := Lib.hid (HS.out.some h0)
              clear HS h0
              have s_z : g < wr.heap.size := BS.lt
              have s_c0 : wr.cell? ⟨g, 0, none⟩ = some (.slice A L.length c) := (BS.cell 0).trans rfl
              have s_f0 := BS.frozen 0
              have s_c1 : wr.cell? ⟨g, 1, none⟩ = some (.int .i64 at_) := (BS.cell 1).trans rfl
              have s_f1 := BS.frozen 1
              have s_c2 : wr.cell? ⟨g, 2, none⟩ = some (.int .i64 er) := (BS.cell 2).trans rfl
              have s_f2 := BS.frozen 2
              have U1 := U0.out.rd_ G1 (by omega)
              have NB : Blk (wr.alloc (.cells #[.slice E row.length e2] 88)) wr.heap.size 88 #[.slice E row.length e2] := Blk.new _ _ _
              have bA := bl_alloc (Below.refl _ wr) (.cells #[.slice E row.length e2] 88)
              obtain ⟨D3, d3, Y, hrun, Q3, hgr, how⟩ := p_row (ty := 24) Tryd.underlying24 (by decide) pinfo_R (U1.below bA) (own_below (own_more O1 s0) bA) NB (by omega) (F1.alloc _).size
              have M3 := (F1.alloc (.cells #[.slice E row.length e2] 88)).grown how hgr
              have MB := M3.box
              have FB := F1.box
              clear U1 NB bA hgr how G1 O1 F1
              have x_z : w.heap.size + 1 < wr.heap.size := FB.lt
              have x_c0 : wr.cell? ⟨w.heap.size + 1, 0, none⟩ = some (.int .i64 K) := (FB.cell 0).trans rfl
              have x_f0 := FB.frozen 0
              have x_c1 : wr.cell? ⟨w.heap.size + 1, 1, none⟩ = some (.int .i64 0) := (FB.cell 1).trans rfl
              have x_f1 := FB.frozen 1
              have x_c2 : wr.cell? ⟨w.heap.size + 1, 2, none⟩ = some (.slice none 0 0) := (FB.cell 2).trans rfl
              have x_f2 := FB.frozen 2
              have x_c3 : wr.cell? ⟨w.heap.size + 1, 3, none⟩ = some (.slice D acc.length d) := (FB.cell 3).trans rfl
              have x_f3 := FB.frozen 3
              have x_c4 : wr.cell? ⟨w.heap.size + 1, 4, none⟩ = some (.int .i64 0) := (FB.cell 4).trans rfl
              have x_f4 := FB.frozen 4
              have x_c5 : wr.cell? ⟨w.heap.size + 1, 5, none⟩ = some (.slice none 0 0) := (FB.cell 5).trans rfl
              have x_f5 := FB.frozen 5
              have y_z : w.heap.size + 1 < Y.heap.size := MB.lt
              have y_c0 : Y.cell? ⟨w.heap.size + 1, 0, none⟩ = some (.int .i64 K) := (MB.cell 0).trans rfl
              have y_f0 := MB.frozen 0
              have y_c1 : Y.cell? ⟨w.heap.size + 1, 1, none⟩ = some (.int .i64 0) := (MB.cell 1).trans rfl
              have y_f1 := MB.frozen 1
              have y_c2 : Y.cell? ⟨w.heap.size + 1, 2, none⟩ = some (.slice none 0 0) := (MB.cell 2).trans rfl
              have y_f2 := MB.frozen 2
              have y_c3 : Y.cell? ⟨w.heap.size + 1, 3, none⟩ = some (.slice D acc.length d) := (MB.cell 3).trans rfl
              have y_f3 := MB.frozen 3
              have y_c4 : Y.cell? ⟨w.heap.size + 1, 4, none⟩ = some (.int .i64 0) := (MB.cell 4).trans rfl
              have y_f4 := MB.frozen 4
              have y_c5 : Y.cell? ⟨w.heap.size + 1, 5, none⟩ = some (.slice none 0 0) := (MB.cell 5).trans rfl
              have y_f5 := MB.frozen 5
              go_wp2_with (at_builtin; refine list_app rfl (.tmp 77) (.tmp 79) 24 24 rfl (by exact hrun) ?_; clear hrun x_z x_c0 x_c1 x_c2 x_c3 x_c4 x_c5 x_f0 x_f1 x_f2 x_f3 x_f4 x_f5)
              go_roundw
              case rel => exact ⟨i + 1, f', at_, er, acc ++ [row], D3, d3, by go_num, by rw [List.length_append]; exact M3.put 3 _ rfl, by rw [List.length_append]; exact OwnR.set (p := ⟨w.heap.size + 1, 3, none⟩) Q3 (Nat.lt_succ_self _) _, by rw [Int.toNat_natCast]; exact HS2, Lib.hid (fun _ => by omega), by omega, Lib.hid (by rw [List.length_append, HL.out]; rfl)⟩
              case measure => simp only [intOf]; omega
          · have k1 : ¬ (k : Int) < (nn : Int) := by omega
            obtain rfl : f2 = 0 := by omega
            have HS2 : Hid (St L at_ er T ((rowsP K nn f' (i + 1) (acc ++ [row]) (L.drop at_)).bind (fun rs l2 => .ok ⟨K, 0, [], rs, 0, []⟩ l2))) := HS
            clear HS
            have U1 := U0.out.rd_ G1 (by omega)
            have NB : Blk (wr.alloc (.cells #[.slice E row.length e2] 88)) wr.heap.size 88 #[.slice E row.length e2] := Blk.new _ _ _
            have bA := bl_alloc (Below.refl _ wr) (.cells #[.slice E row.length e2] 88)
            obtain ⟨D3, d3, Y, hrun, Q3, hgr, how⟩ := p_row (ty := 24) Tryd.underlying24 (by decide) pinfo_R (U1.below bA) (own_below (own_more O1 s0) bA) NB (by omega) (F1.alloc _).size
            have M3 := (F1.alloc (.cells #[.slice E row.length e2] 88)).grown how hgr
            have MB := M3.box
            have FB := F1.box
            clear U1 NB bA hgr how G1 O1 F1
            have x_z : w.heap.size + 1 < wr.heap.size := FB.lt
            have x_c0 : wr.cell? ⟨w.heap.size + 1, 0, none⟩ = some (.int .i64 K) := (FB.cell 0).trans rfl
            have x_f0 := FB.frozen 0
            have x_c1 : wr.cell? ⟨w.heap.size + 1, 1, none⟩ = some (.int .i64 0) := (FB.cell 1).trans rfl
            have x_f1 := FB.frozen 1
            have x_c2 : wr.cell? ⟨w.heap.size + 1, 2, none⟩ = some (.slice none 0 0) := (FB.cell 2).trans rfl
            have x_f2 := FB.frozen 2
            have x_c3 : wr.cell? ⟨w.heap.size + 1, 3, none⟩ = some (.slice D acc.length d) := (FB.cell 3).trans rfl
            have x_f3 := FB.frozen 3
            have x_c4 : wr.cell? ⟨w.heap.size + 1, 4, none⟩ = some (.int .i64 0) := (FB.cell 4).trans rfl
            have x_f4 := FB.frozen 4
            have x_c5 : wr.cell? ⟨w.heap.size + 1, 5, none⟩ = some (.slice none 0 0) := (FB.cell 5).trans rfl
            have x_f5 := FB.frozen 5
            have y_z : w.heap.size + 1 < Y.heap.size := MB.lt
            have y_c0 : Y.cell? ⟨w.heap.size + 1, 0, none⟩ = some (.int .i64 K) := (MB.cell 0).trans rfl
            have y_f0 := MB.frozen 0
            have y_c1 : Y.cell? ⟨w.heap.size + 1, 1, none⟩ = some (.int .i64 0) := (MB.cell 1).trans rfl
            have y_f1 := MB.frozen 1
            have y_c2 : Y.cell? ⟨w.heap.size + 1, 2, none⟩ = some (.slice none 0 0) := (MB.cell 2).trans rfl
            have y_f2 := MB.frozen 2
            have y_c3 : Y.cell? ⟨w.heap.size + 1, 3, none⟩ = some (.slice D acc.length d) := (MB.cell 3).trans rfl
            have y_f3 := MB.frozen 3
            have y_c4 : Y.cell? ⟨w.heap.size + 1, 4, none⟩ = some (.int .i64 0) := (MB.cell 4).trans rfl
            have y_f4 := MB.frozen 4
            have y_c5 : Y.cell? ⟨w.heap.size + 1, 5, none⟩ = some (.slice none 0 0) := (MB.cell 5).trans rfl
            have y_f5 := MB.frozen 5
            go_wp2_with (at_builtin; refine list_app rfl (.tmp 77) (.tmp 79) 24 24 rfl (by exact hrun) ?_; clear hrun x_z x_c0 x_c1 x_c2 x_c3 x_c4 x_c5 x_f0 x_f1 x_f2 x_f3 x_f4 x_f5)
            go_roundw
            case rel => exact ⟨i + 1, f', at_, er, acc ++ [row], D3, d3, by go_num, by rw [List.length_append]; exact M3.put 3 _ rfl, by rw [List.length_append]; exact OwnR.set (p := ⟨w.heap.size + 1, 3, none⟩) Q3 (Nat.lt_succ_self _) _, by rw [Int.toNat_natCast]; exact HS2, Lib.hid (fun _ => by omega), by omega, Lib.hid (by rw [List.length_append, HL.out]; rfl)⟩
            case measure => simp only [intOf]; omega
      · have b0 : (er == 0) = false := by simpa using h0
        have HS2 : Hid (St L at_ er T (.ok ⟨K, 0, [], acc, 0, []⟩ (L.drop at_))) := Lib.hid (HS.out.some h0)
        clear HS HN h0
        have s_z : g < wr.heap.size := BS.lt
        have s_c0 : wr.cell? ⟨g, 0, none⟩ = some (.slice A L.length c) := (BS.cell 0).trans rfl
        have s_f0 := BS.frozen 0
        have s_c1 : wr.cell? ⟨g, 1, none⟩ = some (.int .i64 at_) := (BS.cell 1).trans rfl
        have s_f1 := BS.frozen 1
        have s_c2 : wr.cell? ⟨g, 2, none⟩ = some (.int .i64 er) := (BS.cell 2).trans rfl
        have s_f2 := BS.frozen 2
        have e1 : ¬ w.heap.size + 1 = w.heap.size := by omega
        have e2 : ¬ w.heap.size = w.heap.size + 1 := by omega
        have FB := FR.box
        have ZB := FR.res
        have x_z : w.heap.size + 1 < wr.heap.size := FB.lt
        have x_c0 : wr.cell? ⟨w.heap.size + 1, 0, none⟩ = some (.int .i64 K) := (FB.cell 0).trans rfl
        have x_f0 := FB.frozen 0
        have x_c1 : wr.cell? ⟨w.heap.size + 1, 1, none⟩ = some (.int .i64 0) := (FB.cell 1).trans rfl
        have x_f1 := FB.frozen 1
        have x_c2 : wr.cell? ⟨w.heap.size + 1, 2, none⟩ = some (.slice none 0 0) := (FB.cell 2).trans rfl
        have x_f2 := FB.frozen 2
        have x_c3 : wr.cell? ⟨w.heap.size + 1, 3, none⟩ = some (.slice D acc.length d) := (FB.cell 3).trans rfl
        have x_f3 := FB.frozen 3
        have x_c4 : wr.cell? ⟨w.heap.size + 1, 4, none⟩ = some (.int .i64 0) := (FB.cell 4).trans rfl
        have x_f4 := FB.frozen 4
        have x_c5 : wr.cell? ⟨w.heap.size + 1, 5, none⟩ = some (.slice none 0 0) := (FB.cell 5).trans rfl
        have x_f5 := FB.frozen 5
        have z_z : w.heap.size < wr.heap.size := ZB.lt
        have z_c0 : wr.cell? ⟨w.heap.size, 0, none⟩ = some (.int .i64 0) := (ZB.cell 0).trans rfl
        have z_f0 := ZB.frozen 0
        have z_c1 : wr.cell? ⟨w.heap.size, 1, none⟩ = some (.int .i64 0) := (ZB.cell 1).trans rfl
        have z_f1 := ZB.frozen 1
        have z_c2 : wr.cell? ⟨w.heap.size, 2, none⟩ = some (.slice none 0 0) := (ZB.cell 2).trans rfl
        have z_f2 := ZB.frozen 2
        have z_c3 : wr.cell? ⟨w.heap.size, 3, none⟩ = some (.slice none 0 0) := (ZB.cell 3).trans rfl
        have z_f3 := ZB.frozen 3
        have z_c4 : wr.cell? ⟨w.heap.size, 4, none⟩ = some (.int .i64 0) := (ZB.cell 4).trans rfl
        have z_f4 := ZB.frozen 4
        have z_c5 : wr.cell? ⟨w.heap.size, 5, none⟩ = some (.slice none 0 0) := (ZB.cell 5).trans rfl
        have z_f5 := ZB.frozen 5
        go_wp2_with fail
        refine bodyPost_ret (v := .agg #[.int .i64 K, .int .i64 0, .slice none 0 0, .slice D acc.length d, .int .i64 0, .slice none 0 0]) (by simp [results, Tryd.results26, go_sem, e1, e2, z_z, z_c0, z_c1, z_c2, z_c3, z_c4, z_c5, z_f0, z_f1, z_f2, z_f3, z_f4, z_f5]) rfl ?_
        exact FR.fin (I := ⟨K, 0, [], acc, 0, []⟩) (D1 := none) (d1 := 0) (D3 := none) (d3 := 0) rfl ⟨own_nil _ _ _ _, HO, s_nil _ _ _ _⟩ HS2.out
    · have HS2 : Hid (St L at_ er T (.ok ⟨K, 0, [], acc, 0, []⟩ (L.drop at_))) := by
        by_cases h0 : er = 0
        · obtain ⟨n1, n2, n3⟩ := HN.out h0
          obtain rfl : f = 0 := by omega
          exact HS
        · exact Lib.hid (HS.out.some h0)
      clear HS HN
      have e1 : ¬ w.heap.size + 1 = w.heap.size := by omega
      have e2 : ¬ w.heap.size = w.heap.size + 1 := by omega
      have FB := FR.box
      have ZB := FR.res
      have x_z : w.heap.size + 1 < wr.heap.size := FB.lt
      have x_c0 : wr.cell? ⟨w.heap.size + 1, 0, none⟩ = some (.int .i64 K) := (FB.cell 0).trans rfl
      have x_f0 := FB.frozen 0
      have x_c1 : wr.cell? ⟨w.heap.size + 1, 1, none⟩ = some (.int .i64 0) := (FB.cell 1).trans rfl
      have x_f1 := FB.frozen 1
      have x_c2 : wr.cell? ⟨w.heap.size + 1, 2, none⟩ = some (.slice none 0 0) := (FB.cell 2).trans rfl
      have x_f2 := FB.frozen 2
      have x_c3 : wr.cell? ⟨w.heap.size + 1, 3, none⟩ = some (.slice D acc.length d) := (FB.cell 3).trans rfl
      have x_f3 := FB.frozen 3
      have x_c4 : wr.cell? ⟨w.heap.size + 1, 4, none⟩ = some (.int .i64 0) := (FB.cell 4).trans rfl
      have x_f4 := FB.frozen 4
      have x_c5 : wr.cell? ⟨w.heap.size + 1, 5, none⟩ = some (.slice none 0 0) := (FB.cell 5).trans rfl
      have x_f5 := FB.frozen 5
      have z_z : w.heap.size < wr.heap.size := ZB.lt
      have z_c0 : wr.cell? ⟨w.heap.size, 0, none⟩ = some (.int .i64 0) := (ZB.cell 0).trans rfl
      have z_f0 := ZB.frozen 0
      have z_c1 : wr.cell? ⟨w.heap.size, 1, none⟩ = some (.int .i64 0) := (ZB.cell 1).trans rfl
      have z_f1 := ZB.frozen 1
      have z_c2 : wr.cell? ⟨w.heap.size, 2, none⟩ = some (.slice none 0 0) := (ZB.cell 2).trans rfl
      have z_f2 := ZB.frozen 2
      have z_c3 : wr.cell? ⟨w.heap.size, 3, none⟩ = some (.slice none 0 0) := (ZB.cell 3).trans rfl
      have z_f3 := ZB.frozen 3
      have z_c4 : wr.cell? ⟨w.heap.size, 4, none⟩ = some (.int .i64 0) := (ZB.cell 4).trans rfl
      have z_f4 := ZB.frozen 4
      have z_c5 : wr.cell? ⟨w.heap.size, 5, none⟩ = some (.slice none 0 0) := (ZB.cell 5).trans rfl
      have z_f5 := ZB.frozen 5
      go_wp2_with fail
      refine bodyPost_ret (v := .agg #[.int .i64 K, .int .i64 0, .slice none 0 0, .slice D acc.length d, .int .i64 0, .slice none 0 0]) (by simp [results, Tryd.results26, go_sem, e1, e2, z_z, z_c0, z_c1, z_c2, z_c3, z_c4, z_c5, z_f0, z_f1, z_f2, z_f3, z_f4, z_f5]) rfl ?_
      exact FR.fin (I := ⟨K, 0, [], acc, 0, []⟩) (D1 := none) (d1 := 0) (D3 := none) (d3 := 0) rfl ⟨own_nil _ _ _ _, HO, s_nil _ _ _ _⟩ HS2.out
end
end Go.Proofs.YtklomjpnmmaogaaDoor
