/- The document's cover. -/
import Derived.Test.YtklomjpnmmaogaaDoorFE
import Derived.Deep.LoopGhost
namespace Go.Proofs.YtklomjpnmmaogaaDoor
open Go Go.RowKit
set_option linter.unusedVariables false
set_option linter.unusedSimpArgs false
set_option maxRecDepth 100000

theorem finfo_S : (Tryd.prog.info? 84).map (fun i => (i.zero, i.size, i.bytes)) = some (some (.agg #[.int .i64 0, .slice none 0 0]), 2, 32) := by kernel_rfl
section
variable {w : World} {g c at_ : Nat} {A : Option Addr} {L : List Tok}
set_option maxHeartbeats 25600000 in
theorem fcov_any (h : Rf w g A c L at_ 0) : Calls Tryd.prog 27 #[.pointer (some ⟨g, 0, none⟩)] w fun e w' => FkPost w g A c L (coverP (L.drop at_)) e w' := by
  obtain ⟨T, hT⟩ : ∃ T, coverP (L.drop at_) = T := ⟨_, rfl⟩
  rw [hT]
  unfold coverP at hT
  have S0 := Lib.hid (St.start (L := L) (at_ := at_) hT)
  have hgl := h.gl
  have hcap := h.cap
  obtain ⟨_, _, ht0, _, _⟩ := h.ends.drop_head
  obtain ⟨bb, oo, rfl, hbb, -⟩ := h.toks.five ht0
  clear ht0
  have h0 := (h.below (bl_alloc (Below.refl _ _) (.cells #[.int .i64 0, .int .i64 0, .slice none 0 0, .slice none 0 0, .int .i64 0, .slice none 0 0] 36))).below (bl_alloc (Below.refl _ _) (.cells #[.int .i64 3, .int .i64 0, .slice none 0 0, .slice none 0 0, .int .i64 0, .slice none 0 0] 36))
  have R0 : Blk ((w.alloc (.cells #[.int .i64 0, .int .i64 0, .slice none 0 0, .slice none 0 0, .int .i64 0, .slice none 0 0] 36)).alloc (.cells #[.int .i64 3, .int .i64 0, .slice none 0 0, .slice none 0 0, .int .i64 0, .slice none 0 0] 36)) w.heap.size 36 #[.int .i64 0, .int .i64 0, .slice none 0 0, .slice none 0 0, .int .i64 0, .slice none 0 0] := (Blk.new _ _ _).alloc _
  have B0 : Blk ((w.alloc (.cells #[.int .i64 0, .int .i64 0, .slice none 0 0, .slice none 0 0, .int .i64 0, .slice none 0 0] 36)).alloc (.cells #[.int .i64 3, .int .i64 0, .slice none 0 0, .slice none 0 0, .int .i64 0, .slice none 0 0] 36)) (w.heap.size + 1) 36 #[.int .i64 3, .int .i64 0, .slice none 0 0, .slice none 0 0, .int .i64 0, .slice none 0 0] := Blk.new' (by simp) _ _
  have F0 : FrF ((w.alloc (.cells #[.int .i64 0, .int .i64 0, .slice none 0 0, .slice none 0 0, .int .i64 0, .slice none 0 0] 36)).alloc (.cells #[.int .i64 3, .int .i64 0, .slice none 0 0, .slice none 0 0, .int .i64 0, .slice none 0 0] 36)) w g (some ⟨bb, oo, none⟩) c L (w.heap.size + 1) at_ 0 #[.int .i64 3, .int .i64 0, .slice none 0 0, .slice none 0 0, .int .i64 0, .slice none 0 0] := ⟨((Gr.refl w g).alloc _).alloc _, h0, R0, B0, Nat.lt_succ_self _, hgl⟩
  clear h h0 R0 B0 hT
  go_enter Tryd.func27, Tryd.ntmps27
  go_wp2_with fail
  refine (fnum_any F0.rf 0 4096).mono ?_; rintro e V2 ⟨C, at2, er2, rfl, k2⟩
  have F2 := F0.call k2
  have S2 : Hid (St L at2 er2 T ((setsP C (L.drop at2).length [] (L.drop at2)).bind (fun xs l3 => .ok ⟨3, 0, [], [], C, xs⟩ l3))) := Lib.hid (S0.out.bind k2)
  have C2 : Hid (er2 = 0 → C ≤ 4096) := Lib.hid (fun h => (num_bd (k2.z h).2).2)
  clear F0 S0 k2
  have B := F2.box
  have b_z : w.heap.size + 1 < V2.heap.size := B.lt
  have b_c0 : V2.cell? ⟨w.heap.size + 1, 0, none⟩ = some (.int .i64 3) := (B.cell 0).trans rfl
  have b_f0 := B.frozen 0
  have b_c1 : V2.cell? ⟨w.heap.size + 1, 1, none⟩ = some (.int .i64 0) := (B.cell 1).trans rfl
  have b_f1 := B.frozen 1
  have b_c2 : V2.cell? ⟨w.heap.size + 1, 2, none⟩ = some (.slice none 0 0) := (B.cell 2).trans rfl
  have b_f2 := B.frozen 2
  have b_c3 : V2.cell? ⟨w.heap.size + 1, 3, none⟩ = some (.slice none 0 0) := (B.cell 3).trans rfl
  have b_f3 := B.frozen 3
  have b_c4 : V2.cell? ⟨w.heap.size + 1, 4, none⟩ = some (.int .i64 0) := (B.cell 4).trans rfl
  have b_f4 := B.frozen 4
  have b_c5 : V2.cell? ⟨w.heap.size + 1, 5, none⟩ = some (.slice none 0 0) := (B.cell 5).trans rfl
  have b_f5 := B.frozen 5
  have F3 := F2.put 4 (.int .i64 C) rfl
  clear F2 B
  go_wp2_with fail
  clear b_z b_c0 b_f0 b_c1 b_f1 b_c2 b_f2 b_c3 b_f3 b_c4 b_f4 b_c5 b_f5
  generalize V2.setCell ⟨w.heap.size + 1, 4, none⟩ (.int .i64 C) = W0 at F3 ⊢
  go_loopg [] L.length (fun gf wr => ∃ (f at_ : Nat) (er : Int) (acc : List (Int × List Int)) (D : Option Addr) (d : Nat), FrF wr w g (some ⟨bb, oo, none⟩) c L (w.heap.size + 1) at_ er #[.int .i64 3, .int .i64 0, .slice none 0 0, .slice none 0 0, .int .i64 C, .slice D acc.length d] ∧ OwnS wr (w.heap.size + 1 + 1) 84 3 (.slice D acc.length d) acc ∧ Hid (St L at_ er T ((setsP C f acc (L.drop at_)).bind (fun xs l3 => .ok ⟨3, 0, [], [], C, xs⟩ l3))) ∧ Hid (er = 0 → (L.drop at_).length ≤ f ∧ f ≤ gf ∧ acc.length ≤ 4096 ∧ C ≤ 4096) ∧ acc.length ≤ 4097)
  case atStart => exact ⟨_, at2, er2, [], none, 0, F3, s_nil _ _ _ _, S2, Lib.hid (fun h => ⟨Nat.le_refl _, by rw [List.length_drop]; omega, by simp, C2.out h⟩), by simp⟩
  case round =>
    clear F3 S2 C2
    obtain ⟨f, at_, er, acc, D, d, FR, HO, HS, HM, ha⟩ := hrel
    by_cases h0 : er = 0
    · subst h0
      obtain ⟨m1, m2, m3, m4⟩ := HM.out rfl
      have hpos := FR.rf.ends.pos
      obtain ⟨f', rfl⟩ : ∃ f', f = f' + 1 := ⟨f - 1, by omega⟩
      obtain ⟨gk', rfl⟩ : ∃ g', gk = g' + 1 := ⟨gk - 1, by omega⟩
      have hI := HS.out
      rw [setsP] at hI
      have HI := Lib.hid (fis_any FR.rf wSet)
      have B := FR.rf.box
      obtain ⟨b, hb⟩ : ∃ b, isP wSet (L.drop at_) = b := ⟨_, rfl⟩
      rw [hb] at HI hI
      cases b with
      | true =>
        simp only [if_true] at hI
        have SC : 4096 ≤ acc.length ∨ Hid (St L at_ 0 T ((wordP wSet (L.drop at_)).bind fun _ l1 => (numP 0 2147483648 l1).bind fun v l2 => (takeP 2 l2).bind fun _ l3 => (elemsP C l3.length (-1) [] l3).bind (fun es l4 => (setsP C f' (acc ++ [(v, es)]) l4).bind (fun xs l3 => .ok ⟨3, 0, [], [], C, xs⟩ l3)))) := by
          by_cases hn : 4096 ≤ acc.length
          · exact .inl hn
          · rw [if_neg hn] at hI
            rw [word_is hb]
            simp only [PR.assoc] at hI
            exact .inr (Lib.hid hI)
        have SF : 4096 ≤ acc.length → Hid (∀ Y, St L at_ 22 T Y) := fun hn => by
          rw [if_pos hn] at hI
          exact Lib.hid (fun Y => St.failb hI (by decide))
        replace SF := Lib.hid SF
        replace SC := Lib.hid SC
        replace HM := Lib.hid m3
        have M1 := Lib.hid m1
        have M4 := Lib.hid m4
        clear hI HS hb m1 m3 m4
        have s_z : g < wr.heap.size := B.lt
        have s_c0 : wr.cell? ⟨g, 0, none⟩ = some (.slice (some ⟨bb, oo, none⟩) L.length c) := (B.cell 0).trans rfl
        have s_f0 := B.frozen 0
        have s_c1 : wr.cell? ⟨g, 1, none⟩ = some (.int .i64 at_) := (B.cell 1).trans rfl
        have s_f1 := B.frozen 1
        have s_c2 : wr.cell? ⟨g, 2, none⟩ = some (.int .i64 0) := (B.cell 2).trans rfl
        have s_f2 := B.frozen 2
        go_wp2_with fail
        clear s_z s_c0 s_f0 s_c1 s_f1 s_c2 s_f2 B
        refine HI.out.mono ?_; rintro e V1 ⟨rfl, hb1⟩
        have F1 := FR.below hb1
        have O1 := HO.below hb1
        clear HI FR HO hb1
        have B := F1.box
        have b_z : w.heap.size + 1 < V1.heap.size := B.lt
        have b_c0 : V1.cell? ⟨w.heap.size + 1, 0, none⟩ = some (.int .i64 3) := (B.cell 0).trans rfl
        have b_f0 := B.frozen 0
        have b_c1 : V1.cell? ⟨w.heap.size + 1, 1, none⟩ = some (.int .i64 0) := (B.cell 1).trans rfl
        have b_f1 := B.frozen 1
        have b_c2 : V1.cell? ⟨w.heap.size + 1, 2, none⟩ = some (.slice none 0 0) := (B.cell 2).trans rfl
        have b_f2 := B.frozen 2
        have b_c3 : V1.cell? ⟨w.heap.size + 1, 3, none⟩ = some (.slice none 0 0) := (B.cell 3).trans rfl
        have b_f3 := B.frozen 3
        have b_c4 : V1.cell? ⟨w.heap.size + 1, 4, none⟩ = some (.int .i64 C) := (B.cell 4).trans rfl
        have b_f4 := B.frozen 4
        have b_c5 : V1.cell? ⟨w.heap.size + 1, 5, none⟩ = some (.slice D acc.length d) := (B.cell 5).trans rfl
        have b_f5 := B.frozen 5
        by_cases hn : 4096 ≤ acc.length
        · have hn' : (acc.length : Int) ≥ 4096 := by omega
          have SX := SF.out hn
          clear SF SC
          go_wp2_with fail
          refine (ffail_any F1.rf 22).mono ?_; rintro e V2 ⟨rfl, hG, R2⟩
          rw [if_pos rfl] at R2
          have F2 := F1.meth hG R2
          have O2 := O1.rd_ hG (by omega)
          clear F1 O1 hG R2 B b_z b_c0 b_f0 b_c1 b_f1 b_c2 b_f2 b_c3 b_f3 b_c4 b_f4 b_c5 b_f5
          go_wp2_with fail
          refine (fword_any F2.rf wSet).mono ?_; rintro e V3 ⟨at3, er3, rfl, k3⟩
          have F3 := F2.call k3
          have O3 := O2.rd_ k3.gr (by omega)
          obtain ⟨q1, q2⟩ := k3.kept (by decide)
          subst q1 q2
          clear F2 O2 k3
          have U3 := Lib.hid O3
          have G3 := (Gr.refl V3 g).alloc (.cells #[.int .i64 0, .slice none 0 0] 84)
          have N3 : Blk (V3.alloc (.cells #[.int .i64 0, .slice none 0 0] 84)) V3.heap.size 84 #[.int .i64 0, .slice none 0 0] := Blk.new _ _ _
          have F3b := F3.alloc (.cells #[.int .i64 0, .slice none 0 0] 84)
          have s3 := F3.size
          have s4 : V3.heap.size + 1 ≤ (V3.alloc (.cells #[.int .i64 0, .slice none 0 0] 84)).heap.size := by simp only [World.alloc, Array.size_push]; omega
          clear F3 O3
          go_wp2_with fail
          refine (fnum_any F3b.rf 0 2147483648).mono ?_; rintro e V4 ⟨v, at4, er4, rfl, k4⟩
          have F4 := F3b.call k4
          have G4 := G3.step k4.gr
          have N4 := N3.gr k4.gr (by omega)
          have s5 := k4.gr.hs
          have i5 := Nat.le_trans s4 s5
          obtain ⟨q1, q2⟩ := k4.kept (by decide)
          subst q1 q2
          clear F3b G3 N3 k4 s4 s5
          have F5 := F4.set (p := ⟨V3.heap.size, 0, none⟩) (by show _ < V3.heap.size; omega) (.int .i64 v)
          have G5 := G4.set (p := ⟨V3.heap.size, 0, none⟩) (.inr (Nat.le_refl _)) (.int .i64 v)
          have N5 := N4.put 0 (.int .i64 v) rfl
          have i6 : V3.heap.size + 1 ≤ (V4.setCell ⟨V3.heap.size, 0, none⟩ (.int .i64 v)).heap.size := by have := N5.lt; omega
          have n_z : V3.heap.size < V4.heap.size := N4.lt
          have n_c0 : V4.cell? ⟨V3.heap.size, 0, none⟩ = some (.int .i64 0) := (N4.cell 0).trans rfl
          have n_f0 := N4.frozen 0
          have n_c1 : V4.cell? ⟨V3.heap.size, 1, none⟩ = some (.slice none 0 0) := (N4.cell 1).trans rfl
          have n_f1 := N4.frozen 1
          clear F4 G4 i5
          go_wp2_with fail
          clear N4 n_z n_c0 n_f0 n_c1 n_f1
          generalize V4.setCell ⟨V3.heap.size, 0, none⟩ (.int .i64 v) = V5 at F5 G5 N5 i6 ⊢
          have BS := F5.rf.box
          have s_z : g < V5.heap.size := BS.lt
          have s_c0 : V5.cell? ⟨g, 0, none⟩ = some (.slice (some ⟨bb, oo, none⟩) L.length c) := (BS.cell 0).trans rfl
          have s_f0 := BS.frozen 0
          have s_c1 : V5.cell? ⟨g, 1, none⟩ = some (.int .i64 at4) := (BS.cell 1).trans rfl
          have s_f1 := BS.frozen 1
          have s_c2 : V5.cell? ⟨g, 2, none⟩ = some (.int .i64 22) := (BS.cell 2).trans rfl
          have s_f2 := BS.frozen 2
          go_wp2_with fail
          go_quiet (fail)
          have F6 := F5.below (bl_drewN (Below.refl _ _) nq)
          have G6 := G5.below (bl_drewN (Below.refl _ _) nq)
          have N6 := N5.below (bl_drewN (Below.refl _ _) nq)
          clear F5 G5 N5 BS s_z s_c0 s_f0 s_c1 s_f1 s_c2 s_f2
          generalize V5.drewN nq = V6 at F6 G6 N6 ⊢
          have BS := F6.rf.box
          have s_z : g < V6.heap.size := BS.lt
          have s_c0 : V6.cell? ⟨g, 0, none⟩ = some (.slice (some ⟨bb, oo, none⟩) L.length c) := (BS.cell 0).trans rfl
          have s_f0 := BS.frozen 0
          have s_c1 : V6.cell? ⟨g, 1, none⟩ = some (.int .i64 at4) := (BS.cell 1).trans rfl
          have s_f1 := BS.frozen 1
          have s_c2 : V6.cell? ⟨g, 2, none⟩ = some (.int .i64 22) := (BS.cell 2).trans rfl
          have s_f2 := BS.frozen 2
          go_wp2_with fail
          clear BS s_z s_c0 s_f0 s_c1 s_f1 s_c2 s_f2
          go_loopg [7, 8] 0 (fun gf v7 v8 wr => wr = V6)
          case atStart => exact rfl
          case round =>
            obtain rfl := hrel.symm
            have BS := F6.rf.box
            have s_z : g < V6.heap.size := BS.lt
            have s_c0 : V6.cell? ⟨g, 0, none⟩ = some (.slice (some ⟨bb, oo, none⟩) L.length c) := (BS.cell 0).trans rfl
            have s_f0 := BS.frozen 0
            have s_c1 : V6.cell? ⟨g, 1, none⟩ = some (.int .i64 at4) := (BS.cell 1).trans rfl
            have s_f1 := BS.frozen 1
            have s_c2 : V6.cell? ⟨g, 2, none⟩ = some (.int .i64 22) := (BS.cell 2).trans rfl
            have s_f2 := BS.frozen 2
            go_wp2_with fail
            go_quiet (fail)
            have FQ := F6.below (bl_drewN (Below.refl _ _) nq)
            have GQ := G6.below (bl_drewN (Below.refl _ _) nq)
            have NQ := N6.below (bl_drewN (Below.refl _ _) nq)
            have OE : (V6.drewN nq).ownsRow (V3.heap.size + 1) 3 1 (.slice none 0 0) ([] : List Int).length (([] : List Int).map (Value.int .i64)) := own_nil _ _ _ _
            clear F6 G6 N6 BS s_z s_c0 s_f0 s_c1 s_f1 s_c2 s_f2
            generalize V6.drewN nq = VQ at FQ GQ NQ OE ⊢
            have UA := U3.out.rd_ GQ (by omega)
            have NB : Blk (VQ.alloc (.cells #[.int .i64 v, .slice none 0 0] 84)) VQ.heap.size 84 #[.int .i64 v, .slice none 0 0] := Blk.new _ _ _
            have bA := bl_alloc (Below.refl _ VQ) (.cells #[.int .i64 v, .slice none 0 0] 84)
            obtain ⟨D6, d6, Y, hrun, O6, hgr, how⟩ := p_set (ty := 34) Tryd.underlying34 (by decide) finfo_S (UA.below bA) (own_below (own_more OE (by omega)) bA) NB (by omega) (FQ.alloc _).size
            have M6 := (FQ.alloc (.cells #[.int .i64 v, .slice none 0 0] 84)).grown how hgr
            have MB := M6.box
            have FB := FQ.box
            have NBX := NQ
            clear UA NB bA hgr how FQ GQ OE NQ
            have x_z : w.heap.size + 1 < VQ.heap.size := FB.lt
            have x_c0 : VQ.cell? ⟨w.heap.size + 1, 0, none⟩ = some (.int .i64 3) := (FB.cell 0).trans rfl
            have x_f0 := FB.frozen 0
            have x_c1 : VQ.cell? ⟨w.heap.size + 1, 1, none⟩ = some (.int .i64 0) := (FB.cell 1).trans rfl
            have x_f1 := FB.frozen 1
            have x_c2 : VQ.cell? ⟨w.heap.size + 1, 2, none⟩ = some (.slice none 0 0) := (FB.cell 2).trans rfl
            have x_f2 := FB.frozen 2
            have x_c3 : VQ.cell? ⟨w.heap.size + 1, 3, none⟩ = some (.slice none 0 0) := (FB.cell 3).trans rfl
            have x_f3 := FB.frozen 3
            have x_c4 : VQ.cell? ⟨w.heap.size + 1, 4, none⟩ = some (.int .i64 C) := (FB.cell 4).trans rfl
            have x_f4 := FB.frozen 4
            have x_c5 : VQ.cell? ⟨w.heap.size + 1, 5, none⟩ = some (.slice D acc.length d) := (FB.cell 5).trans rfl
            have x_f5 := FB.frozen 5
            have y_z : w.heap.size + 1 < Y.heap.size := MB.lt
            have y_c0 : Y.cell? ⟨w.heap.size + 1, 0, none⟩ = some (.int .i64 3) := (MB.cell 0).trans rfl
            have y_f0 := MB.frozen 0
            have y_c1 : Y.cell? ⟨w.heap.size + 1, 1, none⟩ = some (.int .i64 0) := (MB.cell 1).trans rfl
            have y_f1 := MB.frozen 1
            have y_c2 : Y.cell? ⟨w.heap.size + 1, 2, none⟩ = some (.slice none 0 0) := (MB.cell 2).trans rfl
            have y_f2 := MB.frozen 2
            have y_c3 : Y.cell? ⟨w.heap.size + 1, 3, none⟩ = some (.slice none 0 0) := (MB.cell 3).trans rfl
            have y_f3 := MB.frozen 3
            have y_c4 : Y.cell? ⟨w.heap.size + 1, 4, none⟩ = some (.int .i64 C) := (MB.cell 4).trans rfl
            have y_f4 := MB.frozen 4
            have y_c5 : Y.cell? ⟨w.heap.size + 1, 5, none⟩ = some (.slice D acc.length d) := (MB.cell 5).trans rfl
            have y_f5 := MB.frozen 5
            have n_z : V3.heap.size < VQ.heap.size := NBX.lt
            have n_c0 : VQ.cell? ⟨V3.heap.size, 0, none⟩ = some (.int .i64 v) := (NBX.cell 0).trans rfl
            have n_f0 := NBX.frozen 0
            have n_c1 : VQ.cell? ⟨V3.heap.size, 1, none⟩ = some (.slice none 0 0) := (NBX.cell 1).trans rfl
            have n_f1 := NBX.frozen 1
            go_wp2_with (at_builtin; refine list_app rfl (.tmp 125) (.tmp 127) 34 34 rfl (by exact hrun) ?_; clear hrun x_z x_c0 x_c1 x_c2 x_c3 x_c4 x_c5 x_f0 x_f1 x_f2 x_f3 x_f4 x_f5)
            go_roundg gk'
            case measure => omega
            case rel => exact ⟨f', at4, 22, acc ++ [(v, [])], D6, d6, by rw [List.length_append]; exact M6.put 5 _ rfl, by rw [List.length_append]; exact OwnS.set (p := ⟨w.heap.size + 1, 5, none⟩) O6 (Nat.lt_succ_self _) _, Lib.hid (SX.out _), Lib.hid (fun h => absurd h (by decide)), by rw [List.length_append]; have := HM.out; show _ + 1 ≤ _; omega⟩
        · have hn' : ¬ (acc.length : Int) ≥ 4096 := by omega
          have HN := Lib.hid hn
          have SX : Hid (St L at_ 0 T _) := SC.out.resolve_left hn
          have F2 := F1
          have O2 := O1
          clear SF SC F1 O1
          go_wp2_with fail
          clear B b_z b_c0 b_f0 b_c1 b_f1 b_c2 b_f2 b_c3 b_f3 b_c4 b_f4 b_c5 b_f5
          refine (fword_any F2.rf wSet).mono ?_; rintro e V3 ⟨at3, er3, rfl, k3⟩
          have F3 := F2.call k3
          have O3 := O2.rd_ k3.gr (by omega)
          have S3 := Lib.hid (SX.out.bind k3)
          have W3 : Hid (er3 = 0 → (L.drop at3).length + 1 = (L.drop at_).length) := Lib.hid (fun h => word_len (k3.z h).2 hpos)
          clear F2 O2 k3 SX
          have U3 := Lib.hid O3
          have G3 := (Gr.refl V3 g).alloc (.cells #[.int .i64 0, .slice none 0 0] 84)
          have N3 : Blk (V3.alloc (.cells #[.int .i64 0, .slice none 0 0] 84)) V3.heap.size 84 #[.int .i64 0, .slice none 0 0] := Blk.new _ _ _
          have F3b := F3.alloc (.cells #[.int .i64 0, .slice none 0 0] 84)
          have s3 := F3.size
          have s4 : V3.heap.size + 1 ≤ (V3.alloc (.cells #[.int .i64 0, .slice none 0 0] 84)).heap.size := by simp only [World.alloc, Array.size_push]; omega
          clear F3 O3
          go_wp2_with fail
          refine (fnum_any F3b.rf 0 2147483648).mono ?_; rintro e V4 ⟨v, at4, er4, rfl, k4⟩
          have F4 := F3b.call k4
          have G4 := G3.step k4.gr
          have N4 := N3.gr k4.gr (by omega)
          have s5 := k4.gr.hs
          have i5 := Nat.le_trans s4 s5
          have S4 := Lib.hid (S3.out.bind k4)
          have W4 : Hid (er4 = 0 → er3 = 0 ∧ (L.drop at4).length ≤ (L.drop at3).length) := Lib.hid (fun h => ⟨(k4.z h).1, num_len (k4.z h).2⟩)
          clear F3b G3 N3 k4 s4 s5 S3
          have F5 := F4.set (p := ⟨V3.heap.size, 0, none⟩) (by show _ < V3.heap.size; omega) (.int .i64 v)
          have G5 := G4.set (p := ⟨V3.heap.size, 0, none⟩) (.inr (Nat.le_refl _)) (.int .i64 v)
          have N5 := N4.put 0 (.int .i64 v) rfl
          have i6 : V3.heap.size + 1 ≤ (V4.setCell ⟨V3.heap.size, 0, none⟩ (.int .i64 v)).heap.size := by have := N5.lt; omega
          have n_z : V3.heap.size < V4.heap.size := N4.lt
          have n_c0 : V4.cell? ⟨V3.heap.size, 0, none⟩ = some (.int .i64 0) := (N4.cell 0).trans rfl
          have n_f0 := N4.frozen 0
          have n_c1 : V4.cell? ⟨V3.heap.size, 1, none⟩ = some (.slice none 0 0) := (N4.cell 1).trans rfl
          have n_f1 := N4.frozen 1
          clear F4 G4 i5
          go_wp2_with fail
          clear N4 n_z n_c0 n_f0 n_c1 n_f1
          generalize V4.setCell ⟨V3.heap.size, 0, none⟩ (.int .i64 v) = V5 at F5 G5 N5 i6 ⊢
          have BS := F5.rf.box
          by_cases e40 : er4 = 0
          · subst e40
            obtain ⟨_, t, _, hh, htl⟩ := F5.rf.ends.drop_head
            obtain ⟨x0, x1, x2, x3, x4⟩ := tok5 F5.rf hh
            have HH := Lib.hid hh
            have i0 : (0 : Int) ≤ at4 := by omega
            have i1 : (at4 : Int) < L.length := by have := F5.rf.lt; omega
            clear htl hh
            have s_z : g < V5.heap.size := BS.lt
            have s_c0 : V5.cell? ⟨g, 0, none⟩ = some (.slice (some ⟨bb, oo, none⟩) L.length c) := (BS.cell 0).trans rfl
            have s_f0 := BS.frozen 0
            have s_c1 : V5.cell? ⟨g, 1, none⟩ = some (.int .i64 at4) := (BS.cell 1).trans rfl
            have s_f1 := BS.frozen 1
            have s_c2 : V5.cell? ⟨g, 2, none⟩ = some (.int .i64 0) := (BS.cell 2).trans rfl
            have s_f2 := BS.frozen 2
            by_cases hk : t.kind = 2
            · have b2 : (t.kind != 2) = false := by simpa using hk
              have hk3 : ¬ (headT (L.drop at4)).kind = 3 := by rw [HH.out]; omega
              have S5 : Hid (St L (at4 + 1) 0 T ((elemsP C (L.drop (at4 + 1)).length (-1) [] (L.drop (at4 + 1))).bind (fun es l4 => (setsP C f' (acc ++ [(v, es)]) l4).bind (fun xs l3 => .ok ⟨3, 0, [], [], C, xs⟩ l3)))) := by
                have hS := S4.out
                simp only [takeP] at hS
                rw [if_pos (by rw [HH.out]; exact hk), PR.bind_ok, ← (F5.rf.step hk3).1] at hS
                exact Lib.hid ⟨fun _ => hS.1 rfl, fun h => absurd rfl h⟩
              have W5 : Hid ((L.drop (at4 + 1)).length + 1 = (L.drop at4).length) := by have := F5.rf.lt; exact Lib.hid (by rw [List.length_drop, List.length_drop]; omega)
              clear S4 hk HH
              go_wp2_with fail
              go_quiet (fail)
              have F6 := F5.below (bl_drewN (Below.refl _ _) nq)
              have G6 := G5.below (bl_drewN (Below.refl _ _) nq)
              have N6 := N5.below (bl_drewN (Below.refl _ _) nq)
              have i7 := Nat.le_trans i6 (bl_drewN (Below.refl V5.heap.size V5) nq).size
              clear F5 G5 N5 BS s_z s_c0 s_f0 s_c1 s_f1 s_c2 s_f2 x0 x1 x2 x3 x4 i0 i1 b2 i6
              generalize V5.drewN nq = V6 at F6 G6 N6 i7 ⊢
              have BS := F6.rf.box
              have s_z : g < V6.heap.size := BS.lt
              have s_c0 : V6.cell? ⟨g, 0, none⟩ = some (.slice (some ⟨bb, oo, none⟩) L.length c) := (BS.cell 0).trans rfl
              have s_f0 := BS.frozen 0
              have s_c1 : V6.cell? ⟨g, 1, none⟩ = some (.int .i64 at4) := (BS.cell 1).trans rfl
              have s_f1 := BS.frozen 1
              have s_c2 : V6.cell? ⟨g, 2, none⟩ = some (.int .i64 0) := (BS.cell 2).trans rfl
              have s_f2 := BS.frozen 2
              have i8 := F6.rf.wrap
              have F7 := F6.next hk3
              have G7 := G6.set (p := ⟨g, 1, none⟩) (.inl rfl) (.int .i64 ((at4 : Int) + 1))
              have N7 := N6.far (p := ⟨g, 1, none⟩) (by show V3.heap.size ≠ g; omega) (.int .i64 ((at4 : Int) + 1))
              have i9 : V3.heap.size + 1 ≤ (V6.setCell ⟨g, 1, none⟩ (.int .i64 ((at4 : Int) + 1))).heap.size := by have := N7.lt; omega
              clear F6 G6 N6 i7 hk3
              go_wp2_with fail
              clear BS s_z s_c0 s_f0 s_c1 s_f1 s_c2 s_f2 i8
              generalize V6.setCell ⟨g, 1, none⟩ (.int .i64 ((at4 : Int) + 1)) = V7 at F7 G7 N7 i9 ⊢
              have OE : V7.ownsRow (V3.heap.size + 1) 3 1 (.slice none 0 0) ([] : List Int).length (([] : List Int).map (Value.int .i64)) := own_nil _ _ _ _
              go_loopg [7, 8] L.length (fun gf v7 v8 wr => ∃ (f3 at_ : Nat) (er : Int) (es : List Int) (E : Option Addr) (e2 : Nat) (last : Int), v7 = .int .i64 last ∧ FrF wr w g (some ⟨bb, oo, none⟩) c L (w.heap.size + 1) at_ er #[.int .i64 3, .int .i64 0, .slice none 0 0, .slice none 0 0, .int .i64 C, .slice D acc.length d] ∧ Gr V3 g wr ∧ Blk wr V3.heap.size 84 #[.int .i64 v, .slice E es.length e2] ∧ wr.ownsRow (V3.heap.size + 1) 3 1 (.slice E es.length e2) es.length (es.map (Value.int .i64)) ∧ V3.heap.size + 1 ≤ wr.heap.size ∧ Hid (St L at_ er T ((elemsP C f3 last es (L.drop at_)).bind (fun es l4 => (setsP C f' (acc ++ [(v, es)]) l4).bind (fun xs l3 => .ok ⟨3, 0, [], [], C, xs⟩ l3)))) ∧ Hid (er = 0 → (L.drop at_).length ≤ f3 ∧ f3 ≤ gf ∧ (es.length : Int) ≤ last + 1 ∧ (L.drop at_).length ≤ (L.drop (at4 + 1)).length) ∧ es.length ≤ 4096)
              case atStart => exact ⟨_, at4 + 1, 0, [], none, 0, -1, rfl, F7, G7, N7, OE, i9, S5, Lib.hid (fun _ => ⟨Nat.le_refl _, by rw [List.length_drop]; omega, by simp, Nat.le_refl _⟩), by simp⟩
              case round =>
                clear F7 G7 N7 OE i9 S5
                obtain ⟨f3, at_, er, es, E, e2, last, rfl, F7, G7, N7, OE, i9, S5, HF, hes⟩ := hrel
                have BS := F7.rf.box
                by_cases h0 : er = 0
                · subst h0
                  obtain ⟨_, t, _, hh, htl⟩ := F7.rf.ends.drop_head
                  obtain ⟨x0, x1, x2, x3, x4⟩ := tok5 F7.rf hh
                  have hpos := F7.rf.ends.pos
                  have HH := Lib.hid hh
                  have i0 : (0 : Int) ≤ at_ := by omega
                  have i1 : (at_ : Int) < L.length := by have := F7.rf.lt; omega
                  obtain ⟨j1, j2, j3, j4⟩ := HF.out rfl
                  obtain ⟨f4, rfl⟩ : ∃ f4, f3 = f4 + 1 := ⟨f3 - 1, by omega⟩
                  have hS := S5.out
                  rw [elemsP, HH.out] at hS
                  clear htl hh S5
                  have s_z : g < wr.heap.size := BS.lt
                  have s_c0 : wr.cell? ⟨g, 0, none⟩ = some (.slice (some ⟨bb, oo, none⟩) L.length c) := (BS.cell 0).trans rfl
                  have s_f0 := BS.frozen 0
                  have s_c1 : wr.cell? ⟨g, 1, none⟩ = some (.int .i64 at_) := (BS.cell 1).trans rfl
                  have s_f1 := BS.frozen 1
                  have s_c2 : wr.cell? ⟨g, 2, none⟩ = some (.int .i64 0) := (BS.cell 2).trans rfl
                  have s_f2 := BS.frozen 2
                  by_cases hk : t.kind = 1
                  · have b1 : (t.kind == 1) = true := by simpa using hk
                    have hk3 : ¬ (headT (L.drop at_)).kind = 3 := by rw [HH.out]; omega
                    rw [if_pos hk] at hS
                    replace hS := Lib.hid hS
                    have HK := Lib.hid hk
                    clear hk HF
                    go_wp2_with fail
                    go_quiet (fail)
                    have bq := bl_drewN (Below.refl wr.heap.size wr) nq
                    have F8 := F7.below bq
                    have G8 := G7.below bq
                    have N8 := N7.below bq
                    have O8 := own_below OE bq
                    have i8 := Nat.le_trans i9 bq.size
                    clear F7 G7 N7 OE BS s_z s_c0 s_f0 s_c1 s_f1 s_c2 s_f2 x0 x1 x2 x3 x4 i9 bq
                    generalize wr.drewN nq = V8 at F8 G8 N8 O8 i8 ⊢
                    obtain ⟨x0, x1, x2, x3, x4⟩ := tok5 F8.rf HH.out
                    have BS := F8.rf.box
                    have s_z : g < V8.heap.size := BS.lt
                    have s_c0 : V8.cell? ⟨g, 0, none⟩ = some (.slice (some ⟨bb, oo, none⟩) L.length c) := (BS.cell 0).trans rfl
                    have s_f0 := BS.frozen 0
                    have s_c1 : V8.cell? ⟨g, 1, none⟩ = some (.int .i64 at_) := (BS.cell 1).trans rfl
                    have s_f1 := BS.frozen 1
                    have s_c2 : V8.cell? ⟨g, 2, none⟩ = some (.int .i64 0) := (BS.cell 2).trans rfl
                    have s_f2 := BS.frozen 2
                    go_wp2_with fail
                    go_quiet (fail)
                    have bq := bl_drewN (Below.refl V8.heap.size V8) nq
                    have F9 := F8.below bq
                    have G9 := G8.below bq
                    have N9 := N8.below bq
                    have O9 := own_below O8 bq
                    have i7 := Nat.le_trans i8 bq.size
                    clear F8 G8 N8 O8 BS s_z s_c0 s_f0 s_c1 s_f1 s_c2 s_f2 x0 x1 x2 x3 x4 i8 bq b1 i0 i1
                    generalize V8.drewN nq = V9 at F9 G9 N9 O9 i7 ⊢
                    by_cases hn : t.num ≤ last ∨ C ≤ t.num
                    · have SB : Hid (∀ Y, St L at_ 4 T Y) := by
                        have hS := hS.out
                        rw [if_pos hn] at hS
                        exact Lib.hid (fun Y => hS.failb (by decide))
                      clear hS
                      by_cases hn1 : t.num ≤ last
                      · clear hn
                        go_wp2_with fail
                        refine (ffail_any F9.rf 4).mono ?_; rintro e V10 ⟨rfl, hG, R10⟩
                        rw [if_pos rfl] at R10
                        have F10 := F9.meth hG R10
                        have G10 := G9.step hG
                        have N10 := N9.gr hG (by omega)
                        have O10 := own_rd O9 hG (by omega)
                        clear F9 G9 N9 O9 hG R10
                        have UA := U3.out.rd_ G10 (by omega)
                        have NB : Blk (V10.alloc (.cells #[.int .i64 v, .slice E es.length e2] 84)) V10.heap.size 84 #[.int .i64 v, .slice E es.length e2] := Blk.new _ _ _
                        have bA := bl_alloc (Below.refl _ V10) (.cells #[.int .i64 v, .slice E es.length e2] 84)
                        obtain ⟨D6, d6, Y, hrun, O6, hgr, how⟩ := p_set (ty := 34) Tryd.underlying34 (by decide) finfo_S (UA.below bA) (own_below (own_more O10 (by omega)) bA) NB (by omega) (F10.alloc _).size
                        have M6 := (F10.alloc (.cells #[.int .i64 v, .slice E es.length e2] 84)).grown how hgr
                        have MB := M6.box
                        have FB := F10.box
                        have NBX := N10
                        clear UA NB bA hgr how F10 G10 O10 N10
                        have x_z : w.heap.size + 1 < V10.heap.size := FB.lt
                        have x_c0 : V10.cell? ⟨w.heap.size + 1, 0, none⟩ = some (.int .i64 3) := (FB.cell 0).trans rfl
                        have x_f0 := FB.frozen 0
                        have x_c1 : V10.cell? ⟨w.heap.size + 1, 1, none⟩ = some (.int .i64 0) := (FB.cell 1).trans rfl
                        have x_f1 := FB.frozen 1
                        have x_c2 : V10.cell? ⟨w.heap.size + 1, 2, none⟩ = some (.slice none 0 0) := (FB.cell 2).trans rfl
                        have x_f2 := FB.frozen 2
                        have x_c3 : V10.cell? ⟨w.heap.size + 1, 3, none⟩ = some (.slice none 0 0) := (FB.cell 3).trans rfl
                        have x_f3 := FB.frozen 3
                        have x_c4 : V10.cell? ⟨w.heap.size + 1, 4, none⟩ = some (.int .i64 C) := (FB.cell 4).trans rfl
                        have x_f4 := FB.frozen 4
                        have x_c5 : V10.cell? ⟨w.heap.size + 1, 5, none⟩ = some (.slice D acc.length d) := (FB.cell 5).trans rfl
                        have x_f5 := FB.frozen 5
                        have y_z : w.heap.size + 1 < Y.heap.size := MB.lt
                        have y_c0 : Y.cell? ⟨w.heap.size + 1, 0, none⟩ = some (.int .i64 3) := (MB.cell 0).trans rfl
                        have y_f0 := MB.frozen 0
                        have y_c1 : Y.cell? ⟨w.heap.size + 1, 1, none⟩ = some (.int .i64 0) := (MB.cell 1).trans rfl
                        have y_f1 := MB.frozen 1
                        have y_c2 : Y.cell? ⟨w.heap.size + 1, 2, none⟩ = some (.slice none 0 0) := (MB.cell 2).trans rfl
                        have y_f2 := MB.frozen 2
                        have y_c3 : Y.cell? ⟨w.heap.size + 1, 3, none⟩ = some (.slice none 0 0) := (MB.cell 3).trans rfl
                        have y_f3 := MB.frozen 3
                        have y_c4 : Y.cell? ⟨w.heap.size + 1, 4, none⟩ = some (.int .i64 C) := (MB.cell 4).trans rfl
                        have y_f4 := MB.frozen 4
                        have y_c5 : Y.cell? ⟨w.heap.size + 1, 5, none⟩ = some (.slice D acc.length d) := (MB.cell 5).trans rfl
                        have y_f5 := MB.frozen 5
                        have n_z : V3.heap.size < V10.heap.size := NBX.lt
                        have n_c0 : V10.cell? ⟨V3.heap.size, 0, none⟩ = some (.int .i64 v) := (NBX.cell 0).trans rfl
                        have n_f0 := NBX.frozen 0
                        have n_c1 : V10.cell? ⟨V3.heap.size, 1, none⟩ = some (.slice E es.length e2) := (NBX.cell 1).trans rfl
                        have n_f1 := NBX.frozen 1
                        go_wp2_with (at_builtin; refine list_app rfl (.tmp 125) (.tmp 127) 34 34 rfl (by exact hrun) ?_; clear hrun x_z x_c0 x_c1 x_c2 x_c3 x_c4 x_c5 x_f0 x_f1 x_f2 x_f3 x_f4 x_f5)
                        go_roundg gk'
                        case measure => omega
                        case rel => exact ⟨f', at_, 4, acc ++ [(v, es)], D6, d6, by rw [List.length_append]; exact M6.put 5 _ rfl, by rw [List.length_append]; exact OwnS.set (p := ⟨w.heap.size + 1, 5, none⟩) O6 (Nat.lt_succ_self _) _, Lib.hid (SB.out _), Lib.hid (fun h => absurd h (by decide)), by rw [List.length_append]; have := HM.out; show _ + 1 ≤ _; omega⟩
                      · have hn2 : C ≤ t.num := by omega
                        clear hn
                        go_wp2_with fail
                        refine (ffail_any F9.rf 4).mono ?_; rintro e V10 ⟨rfl, hG, R10⟩
                        rw [if_pos rfl] at R10
                        have F10 := F9.meth hG R10
                        have G10 := G9.step hG
                        have N10 := N9.gr hG (by omega)
                        have O10 := own_rd O9 hG (by omega)
                        clear F9 G9 N9 O9 hG R10
                        have UA := U3.out.rd_ G10 (by omega)
                        have NB : Blk (V10.alloc (.cells #[.int .i64 v, .slice E es.length e2] 84)) V10.heap.size 84 #[.int .i64 v, .slice E es.length e2] := Blk.new _ _ _
                        have bA := bl_alloc (Below.refl _ V10) (.cells #[.int .i64 v, .slice E es.length e2] 84)
                        obtain ⟨D6, d6, Y, hrun, O6, hgr, how⟩ := p_set (ty := 34) Tryd.underlying34 (by decide) finfo_S (UA.below bA) (own_below (own_more O10 (by omega)) bA) NB (by omega) (F10.alloc _).size
                        have M6 := (F10.alloc (.cells #[.int .i64 v, .slice E es.length e2] 84)).grown how hgr
                        have MB := M6.box
                        have FB := F10.box
                        have NBX := N10
                        clear UA NB bA hgr how F10 G10 O10 N10
                        have x_z : w.heap.size + 1 < V10.heap.size := FB.lt
                        have x_c0 : V10.cell? ⟨w.heap.size + 1, 0, none⟩ = some (.int .i64 3) := (FB.cell 0).trans rfl
                        have x_f0 := FB.frozen 0
                        have x_c1 : V10.cell? ⟨w.heap.size + 1, 1, none⟩ = some (.int .i64 0) := (FB.cell 1).trans rfl
                        have x_f1 := FB.frozen 1
                        have x_c2 : V10.cell? ⟨w.heap.size + 1, 2, none⟩ = some (.slice none 0 0) := (FB.cell 2).trans rfl
                        have x_f2 := FB.frozen 2
                        have x_c3 : V10.cell? ⟨w.heap.size + 1, 3, none⟩ = some (.slice none 0 0) := (FB.cell 3).trans rfl
                        have x_f3 := FB.frozen 3
                        have x_c4 : V10.cell? ⟨w.heap.size + 1, 4, none⟩ = some (.int .i64 C) := (FB.cell 4).trans rfl
                        have x_f4 := FB.frozen 4
                        have x_c5 : V10.cell? ⟨w.heap.size + 1, 5, none⟩ = some (.slice D acc.length d) := (FB.cell 5).trans rfl
                        have x_f5 := FB.frozen 5
                        have y_z : w.heap.size + 1 < Y.heap.size := MB.lt
                        have y_c0 : Y.cell? ⟨w.heap.size + 1, 0, none⟩ = some (.int .i64 3) := (MB.cell 0).trans rfl
                        have y_f0 := MB.frozen 0
                        have y_c1 : Y.cell? ⟨w.heap.size + 1, 1, none⟩ = some (.int .i64 0) := (MB.cell 1).trans rfl
                        have y_f1 := MB.frozen 1
                        have y_c2 : Y.cell? ⟨w.heap.size + 1, 2, none⟩ = some (.slice none 0 0) := (MB.cell 2).trans rfl
                        have y_f2 := MB.frozen 2
                        have y_c3 : Y.cell? ⟨w.heap.size + 1, 3, none⟩ = some (.slice none 0 0) := (MB.cell 3).trans rfl
                        have y_f3 := MB.frozen 3
                        have y_c4 : Y.cell? ⟨w.heap.size + 1, 4, none⟩ = some (.int .i64 C) := (MB.cell 4).trans rfl
                        have y_f4 := MB.frozen 4
                        have y_c5 : Y.cell? ⟨w.heap.size + 1, 5, none⟩ = some (.slice D acc.length d) := (MB.cell 5).trans rfl
                        have y_f5 := MB.frozen 5
                        have n_z : V3.heap.size < V10.heap.size := NBX.lt
                        have n_c0 : V10.cell? ⟨V3.heap.size, 0, none⟩ = some (.int .i64 v) := (NBX.cell 0).trans rfl
                        have n_f0 := NBX.frozen 0
                        have n_c1 : V10.cell? ⟨V3.heap.size, 1, none⟩ = some (.slice E es.length e2) := (NBX.cell 1).trans rfl
                        have n_f1 := NBX.frozen 1
                        go_wp2_with (at_builtin; refine list_app rfl (.tmp 125) (.tmp 127) 34 34 rfl (by exact hrun) ?_; clear hrun x_z x_c0 x_c1 x_c2 x_c3 x_c4 x_c5 x_f0 x_f1 x_f2 x_f3 x_f4 x_f5)
                        go_roundg gk'
                        case measure => omega
                        case rel => exact ⟨f', at_, 4, acc ++ [(v, es)], D6, d6, by rw [List.length_append]; exact M6.put 5 _ rfl, by rw [List.length_append]; exact OwnS.set (p := ⟨w.heap.size + 1, 5, none⟩) O6 (Nat.lt_succ_self _) _, Lib.hid (SB.out _), Lib.hid (fun h => absurd h (by decide)), by rw [List.length_append]; have := HM.out; show _ + 1 ≤ _; omega⟩
                    · have SG : Hid (St L (at_ + 1) 0 T ((elemsP C f4 t.num (es ++ [t.num]) (L.drop (at_ + 1))).bind (fun es l4 => (setsP C f' (acc ++ [(v, es)]) l4).bind (fun xs l3 => .ok ⟨3, 0, [], [], C, xs⟩ l3)))) := by
                        have hS := hS.out
                        rw [if_neg hn, ← (F9.rf.step hk3).1] at hS
                        exact Lib.hid ⟨fun _ => hS.1 rfl, fun h => absurd rfl h⟩
                      have hn1 : ¬ t.num ≤ last := fun h => hn (.inl h)
                      have hn2 : ¬ C ≤ t.num := fun h => hn (.inr h)
                      have hC := M4.out
                      have hlen : (L.drop (at_ + 1)).length + 1 = (L.drop at_).length := by have := F9.rf.lt; rw [List.length_drop, List.length_drop]; omega
                      clear hS hn
                      obtain ⟨gq', rfl⟩ : ∃ z, gk = z + 1 := ⟨gk - 1, by omega⟩
                      have NB : Blk (V9.alloc (.cells #[.int .i64 t.num] 3)) V9.heap.size 3 #[.int .i64 t.num] := Blk.new _ _ _
                      have bA := bl_alloc (Below.refl _ V9) (.cells #[.int .i64 t.num] 3)
                      obtain ⟨E4, e4, Y, hrun, O4, hgr⟩ := p_num (ty := 78) Tryd.underlying78 pinfo_N (own_below O9 bA) NB (by omega) (by omega) (Nat.le_trans i7 bA.size)
                      have hkq : ∀ z, (Value.slice E es.length e2).ownBlock = some z → V3.heap.size + 1 ≤ z := own_base O9
                      have F10 := (F9.alloc (.cells #[.int .i64 t.num] 3)).grown (fun z hz => by have := hkq z hz; omega) hgr
                      have G10 := (G9.alloc (.cells #[.int .i64 t.num] 3)).grown hgr (fun z hz => by have := hkq z hz; omega)
                      have N10 := (N9.alloc (.cells #[.int .i64 t.num] 3)).grown hgr (fun e => by have := hkq _ e.symm; omega)
                      have F11 := F10.set (p := ⟨V3.heap.size, 1, none⟩) (by show _ < V3.heap.size; omega) (.slice E4 (es.length + 1) e4)
                      have G11 := G10.set (p := ⟨V3.heap.size, 1, none⟩) (.inr (Nat.le_refl _)) (.slice E4 (es.length + 1) e4)
                      have N11 := N10.put 1 (.slice E4 (es.length + 1) e4) rfl
                      have O11 := own_far O4 (p := ⟨V3.heap.size, 1, none⟩) (fun e => by have := own_base O4 _ e; have : V3.heap.size + 1 ≤ V3.heap.size := this; omega) (.slice E4 (es.length + 1) e4)
                      have i11 : V3.heap.size + 1 ≤ (Y.setCell ⟨V3.heap.size, 1, none⟩ (.slice E4 (es.length + 1) e4)).heap.size := N11.lt
                      have NN := N10
                      have N9b := N9
                      have B11 := F11.rf.box
                      have F12 := F11.next hk3
                      have w12 := F11.rf.wrap
                      have G12 := G11.set (p := ⟨g, 1, none⟩) (.inl rfl) (.int .i64 ((at_ : Int) + 1))
                      have N12 := N11.far (p := ⟨g, 1, none⟩) (by show V3.heap.size ≠ g; omega) (.int .i64 ((at_ : Int) + 1))
                      have O12 := own_far O11 (p := ⟨g, 1, none⟩) (fun e => by have := own_base O11 _ e; have : V3.heap.size + 1 ≤ g := this; omega) (.int .i64 ((at_ : Int) + 1))
                      have B10 := F10.rf.box
                      have q1 : ¬ V3.heap.size = g := by omega
                      have q2 : ¬ g = V3.heap.size := by omega
                      clear NB bA hgr hkq F9 G9 O9 F10 G10 O4 F11 G11 N11 O11 N9 N10 hk3 HK B11
                      have n_z : V3.heap.size < V9.heap.size := N9b.lt
                      have n_c0 : V9.cell? ⟨V3.heap.size, 0, none⟩ = some (.int .i64 v) := (N9b.cell 0).trans rfl
                      have n_f0 := N9b.frozen 0
                      have n_c1 : V9.cell? ⟨V3.heap.size, 1, none⟩ = some (.slice E es.length e2) := (N9b.cell 1).trans rfl
                      have n_f1 := N9b.frozen 1
                      have y_z : V3.heap.size < Y.heap.size := NN.lt
                      have y_c0 : Y.cell? ⟨V3.heap.size, 0, none⟩ = some (.int .i64 v) := (NN.cell 0).trans rfl
                      have y_f0 := NN.frozen 0
                      have y_c1 : Y.cell? ⟨V3.heap.size, 1, none⟩ = some (.slice E es.length e2) := (NN.cell 1).trans rfl
                      have y_f1 := NN.frozen 1
                      have t_z : g < Y.heap.size := B10.lt
                      have t_c0 : Y.cell? ⟨g, 0, none⟩ = some (.slice (some ⟨bb, oo, none⟩) L.length c) := (B10.cell 0).trans rfl
                      have t_f0 := B10.frozen 0
                      have t_c1 : Y.cell? ⟨g, 1, none⟩ = some (.int .i64 at_) := (B10.cell 1).trans rfl
                      have t_f1 := B10.frozen 1
                      have t_c2 : Y.cell? ⟨g, 2, none⟩ = some (.int .i64 0) := (B10.cell 2).trans rfl
                      have t_f2 := B10.frozen 2
                      go_wp2_with (at_builtin; refine list_app rfl (.tmp 110) (.tmp 112) 78 78 rfl (by exact hrun) ?_; clear hrun n_z n_c0 n_f0 n_c1 n_f1)
                      go_roundg gq'
                      case measure => omega
                      case rel => exact ⟨f4, at_ + 1, 0, es ++ [t.num], E4, e4, t.num, by simp, F12, G12, by rw [List.length_append]; exact N12, by rw [List.length_append] at O12 ⊢; exact O12, N12.lt, SG, Lib.hid (fun _ => ⟨by omega, by omega, by rw [List.length_append]; simp; omega, by omega⟩), by rw [List.length_append]; simp; omega⟩
                  · have b1 : (t.kind == 1) = false := by simpa using hk
                    rw [if_neg hk] at hS
                    have S6 : Hid (St L at_ 0 T ((setsP C f' (acc ++ [(v, es)]) (L.drop at_)).bind (fun xs l3 => .ok ⟨3, 0, [], [], C, xs⟩ l3))) := Lib.hid hS
                    have HJ := Lib.hid j4
                    clear hS hk HF
                    go_wp2_with fail
                    go_quiet (fail)
                    have bq := bl_drewN (Below.refl wr.heap.size wr) nq
                    have F8 := F7.below bq
                    have G8 := G7.below bq
                    have N8 := N7.below bq
                    have O8 := own_below OE bq
                    have i8 := Nat.le_trans i9 bq.size
                    clear F7 G7 N7 OE BS s_z s_c0 s_f0 s_c1 s_f1 s_c2 s_f2 x0 x1 x2 x3 x4 i9 bq
                    generalize wr.drewN nq = V8 at F8 G8 N8 O8 i8 ⊢
                    have UA := U3.out.rd_ G8 (by omega)
                    have NB : Blk (V8.alloc (.cells #[.int .i64 v, .slice E es.length e2] 84)) V8.heap.size 84 #[.int .i64 v, .slice E es.length e2] := Blk.new _ _ _
                    have bA := bl_alloc (Below.refl _ V8) (.cells #[.int .i64 v, .slice E es.length e2] 84)
                    obtain ⟨D6, d6, Y, hrun, O6, hgr, how⟩ := p_set (ty := 34) Tryd.underlying34 (by decide) finfo_S (UA.below bA) (own_below (own_more O8 (by omega)) bA) NB (by omega) (F8.alloc _).size
                    have M6 := (F8.alloc (.cells #[.int .i64 v, .slice E es.length e2] 84)).grown how hgr
                    have MB := M6.box
                    have FB := F8.box
                    have NBX := N8
                    clear UA NB bA hgr how F8 G8 O8 N8
                    have x_z : w.heap.size + 1 < V8.heap.size := FB.lt
                    have x_c0 : V8.cell? ⟨w.heap.size + 1, 0, none⟩ = some (.int .i64 3) := (FB.cell 0).trans rfl
                    have x_f0 := FB.frozen 0
                    have x_c1 : V8.cell? ⟨w.heap.size + 1, 1, none⟩ = some (.int .i64 0) := (FB.cell 1).trans rfl
                    have x_f1 := FB.frozen 1
                    have x_c2 : V8.cell? ⟨w.heap.size + 1, 2, none⟩ = some (.slice none 0 0) := (FB.cell 2).trans rfl
                    have x_f2 := FB.frozen 2
                    have x_c3 : V8.cell? ⟨w.heap.size + 1, 3, none⟩ = some (.slice none 0 0) := (FB.cell 3).trans rfl
                    have x_f3 := FB.frozen 3
                    have x_c4 : V8.cell? ⟨w.heap.size + 1, 4, none⟩ = some (.int .i64 C) := (FB.cell 4).trans rfl
                    have x_f4 := FB.frozen 4
                    have x_c5 : V8.cell? ⟨w.heap.size + 1, 5, none⟩ = some (.slice D acc.length d) := (FB.cell 5).trans rfl
                    have x_f5 := FB.frozen 5
                    have y_z : w.heap.size + 1 < Y.heap.size := MB.lt
                    have y_c0 : Y.cell? ⟨w.heap.size + 1, 0, none⟩ = some (.int .i64 3) := (MB.cell 0).trans rfl
                    have y_f0 := MB.frozen 0
                    have y_c1 : Y.cell? ⟨w.heap.size + 1, 1, none⟩ = some (.int .i64 0) := (MB.cell 1).trans rfl
                    have y_f1 := MB.frozen 1
                    have y_c2 : Y.cell? ⟨w.heap.size + 1, 2, none⟩ = some (.slice none 0 0) := (MB.cell 2).trans rfl
                    have y_f2 := MB.frozen 2
                    have y_c3 : Y.cell? ⟨w.heap.size + 1, 3, none⟩ = some (.slice none 0 0) := (MB.cell 3).trans rfl
                    have y_f3 := MB.frozen 3
                    have y_c4 : Y.cell? ⟨w.heap.size + 1, 4, none⟩ = some (.int .i64 C) := (MB.cell 4).trans rfl
                    have y_f4 := MB.frozen 4
                    have y_c5 : Y.cell? ⟨w.heap.size + 1, 5, none⟩ = some (.slice D acc.length d) := (MB.cell 5).trans rfl
                    have y_f5 := MB.frozen 5
                    have n_z : V3.heap.size < V8.heap.size := NBX.lt
                    have n_c0 : V8.cell? ⟨V3.heap.size, 0, none⟩ = some (.int .i64 v) := (NBX.cell 0).trans rfl
                    have n_f0 := NBX.frozen 0
                    have n_c1 : V8.cell? ⟨V3.heap.size, 1, none⟩ = some (.slice E es.length e2) := (NBX.cell 1).trans rfl
                    have n_f1 := NBX.frozen 1
                    go_wp2_with (at_builtin; refine list_app rfl (.tmp 125) (.tmp 127) 34 34 rfl (by exact hrun) ?_; clear hrun x_z x_c0 x_c1 x_c2 x_c3 x_c4 x_c5 x_f0 x_f1 x_f2 x_f3 x_f4 x_f5)
                    go_roundg gk'
                    case measure => omega
                    case rel => exact ⟨f', at_, 0, acc ++ [(v, es)], D6, d6, by rw [List.length_append]; exact M6.put 5 _ rfl, by rw [List.length_append]; exact OwnS.set (p := ⟨w.heap.size + 1, 5, none⟩) O6 (Nat.lt_succ_self _) _, S6, Lib.hid (fun h => by have a := HJ.out; have b := W5.out; have c := W4.out (by simp); have d := W3.out c.1; have z := M1.out; have q := HN.out; have := HM.out; refine ⟨by omega, by omega, ?_, M4.out⟩; rw [List.length_append]; show _ + 1 ≤ _; omega), by rw [List.length_append]; have := HM.out; show _ + 1 ≤ _; omega⟩
                · have b0 : (er == 0) = false := by simpa using h0
                  have S6 : Hid (St L at_ er T ((setsP C f' (acc ++ [(v, es)]) (L.drop at_)).bind (fun xs l3 => .ok ⟨3, 0, [], [], C, xs⟩ l3))) := Lib.hid (S5.out.some h0)
                  have H0 := Lib.hid h0
                  clear S5 h0 HF
                  have s_z : g < wr.heap.size := BS.lt
                  have s_c0 : wr.cell? ⟨g, 0, none⟩ = some (.slice (some ⟨bb, oo, none⟩) L.length c) := (BS.cell 0).trans rfl
                  have s_f0 := BS.frozen 0
                  have s_c1 : wr.cell? ⟨g, 1, none⟩ = some (.int .i64 at_) := (BS.cell 1).trans rfl
                  have s_f1 := BS.frozen 1
                  have s_c2 : wr.cell? ⟨g, 2, none⟩ = some (.int .i64 er) := (BS.cell 2).trans rfl
                  have s_f2 := BS.frozen 2
                  go_wp2_with fail
                  go_quiet (fail)
                  have bq := bl_drewN (Below.refl wr.heap.size wr) nq
                  have F8 := F7.below bq
                  have G8 := G7.below bq
                  have N8 := N7.below bq
                  have O8 := own_below OE bq
                  have i8 := Nat.le_trans i9 bq.size
                  clear F7 G7 N7 OE BS s_z s_c0 s_f0 s_c1 s_f1 s_c2 s_f2 i9 bq
                  generalize wr.drewN nq = V8 at F8 G8 N8 O8 i8 ⊢
                  have UA := U3.out.rd_ G8 (by omega)
                  have NB : Blk (V8.alloc (.cells #[.int .i64 v, .slice E es.length e2] 84)) V8.heap.size 84 #[.int .i64 v, .slice E es.length e2] := Blk.new _ _ _
                  have bA := bl_alloc (Below.refl _ V8) (.cells #[.int .i64 v, .slice E es.length e2] 84)
                  obtain ⟨D6, d6, Y, hrun, O6, hgr, how⟩ := p_set (ty := 34) Tryd.underlying34 (by decide) finfo_S (UA.below bA) (own_below (own_more O8 (by omega)) bA) NB (by omega) (F8.alloc _).size
                  have M6 := (F8.alloc (.cells #[.int .i64 v, .slice E es.length e2] 84)).grown how hgr
                  have MB := M6.box
                  have FB := F8.box
                  have NBX := N8
                  clear UA NB bA hgr how F8 G8 O8 N8
                  have x_z : w.heap.size + 1 < V8.heap.size := FB.lt
                  have x_c0 : V8.cell? ⟨w.heap.size + 1, 0, none⟩ = some (.int .i64 3) := (FB.cell 0).trans rfl
                  have x_f0 := FB.frozen 0
                  have x_c1 : V8.cell? ⟨w.heap.size + 1, 1, none⟩ = some (.int .i64 0) := (FB.cell 1).trans rfl
                  have x_f1 := FB.frozen 1
                  have x_c2 : V8.cell? ⟨w.heap.size + 1, 2, none⟩ = some (.slice none 0 0) := (FB.cell 2).trans rfl
                  have x_f2 := FB.frozen 2
                  have x_c3 : V8.cell? ⟨w.heap.size + 1, 3, none⟩ = some (.slice none 0 0) := (FB.cell 3).trans rfl
                  have x_f3 := FB.frozen 3
                  have x_c4 : V8.cell? ⟨w.heap.size + 1, 4, none⟩ = some (.int .i64 C) := (FB.cell 4).trans rfl
                  have x_f4 := FB.frozen 4
                  have x_c5 : V8.cell? ⟨w.heap.size + 1, 5, none⟩ = some (.slice D acc.length d) := (FB.cell 5).trans rfl
                  have x_f5 := FB.frozen 5
                  have y_z : w.heap.size + 1 < Y.heap.size := MB.lt
                  have y_c0 : Y.cell? ⟨w.heap.size + 1, 0, none⟩ = some (.int .i64 3) := (MB.cell 0).trans rfl
                  have y_f0 := MB.frozen 0
                  have y_c1 : Y.cell? ⟨w.heap.size + 1, 1, none⟩ = some (.int .i64 0) := (MB.cell 1).trans rfl
                  have y_f1 := MB.frozen 1
                  have y_c2 : Y.cell? ⟨w.heap.size + 1, 2, none⟩ = some (.slice none 0 0) := (MB.cell 2).trans rfl
                  have y_f2 := MB.frozen 2
                  have y_c3 : Y.cell? ⟨w.heap.size + 1, 3, none⟩ = some (.slice none 0 0) := (MB.cell 3).trans rfl
                  have y_f3 := MB.frozen 3
                  have y_c4 : Y.cell? ⟨w.heap.size + 1, 4, none⟩ = some (.int .i64 C) := (MB.cell 4).trans rfl
                  have y_f4 := MB.frozen 4
                  have y_c5 : Y.cell? ⟨w.heap.size + 1, 5, none⟩ = some (.slice D acc.length d) := (MB.cell 5).trans rfl
                  have y_f5 := MB.frozen 5
                  have n_z : V3.heap.size < V8.heap.size := NBX.lt
                  have n_c0 : V8.cell? ⟨V3.heap.size, 0, none⟩ = some (.int .i64 v) := (NBX.cell 0).trans rfl
                  have n_f0 := NBX.frozen 0
                  have n_c1 : V8.cell? ⟨V3.heap.size, 1, none⟩ = some (.slice E es.length e2) := (NBX.cell 1).trans rfl
                  have n_f1 := NBX.frozen 1
                  go_wp2_with (at_builtin; refine list_app rfl (.tmp 125) (.tmp 127) 34 34 rfl (by exact hrun) ?_; clear hrun x_z x_c0 x_c1 x_c2 x_c3 x_c4 x_c5 x_f0 x_f1 x_f2 x_f3 x_f4 x_f5)
                  go_roundg gk'
                  case measure => omega
                  case rel => exact ⟨f', at_, er, acc ++ [(v, es)], D6, d6, by rw [List.length_append]; exact M6.put 5 _ rfl, by rw [List.length_append]; exact OwnS.set (p := ⟨w.heap.size + 1, 5, none⟩) O6 (Nat.lt_succ_self _) _, S6, Lib.hid (fun h => absurd h H0.out), by rw [List.length_append]; have := HM.out; show _ + 1 ≤ _; omega⟩
            · have b2 : (t.kind != 2) = true := by simpa using hk
              have S5 : Hid (∀ Y, St L at4 4 T Y) := by
                have hS := S4.out
                simp only [takeP] at hS
                rw [if_neg (by rw [HH.out]; exact hk)] at hS
                exact Lib.hid (fun Y => hS.failb (by decide))
              clear S4 hk HH
              go_wp2_with fail
              go_quiet (fail)
              have F6 := F5.below (bl_drewN (Below.refl _ _) nq)
              have G6 := G5.below (bl_drewN (Below.refl _ _) nq)
              have N6 := N5.below (bl_drewN (Below.refl _ _) nq)
              clear F5 G5 N5 BS s_z s_c0 s_f0 s_c1 s_f1 s_c2 s_f2 x0 x1 x2 x3 x4 i0 i1 b2 i6
              generalize V5.drewN nq = V6 at F6 G6 N6 ⊢
              go_wp2_with fail
              refine (ffail_any F6.rf 4).mono ?_; rintro e V7 ⟨rfl, hG7, R7⟩
              rw [if_pos rfl] at R7
              have F7 := F6.meth hG7 R7
              have G7 := G6.step hG7
              have N7 := N6.gr hG7 (by omega)
              clear F6 G6 N6 hG7 R7
              have BS := F7.rf.box
              have s_z : g < V7.heap.size := BS.lt
              have s_c0 : V7.cell? ⟨g, 0, none⟩ = some (.slice (some ⟨bb, oo, none⟩) L.length c) := (BS.cell 0).trans rfl
              have s_f0 := BS.frozen 0
              have s_c1 : V7.cell? ⟨g, 1, none⟩ = some (.int .i64 at4) := (BS.cell 1).trans rfl
              have s_f1 := BS.frozen 1
              have s_c2 : V7.cell? ⟨g, 2, none⟩ = some (.int .i64 4) := (BS.cell 2).trans rfl
              have s_f2 := BS.frozen 2
              go_wp2_with fail
              clear BS s_z s_c0 s_f0 s_c1 s_f1 s_c2 s_f2
              go_loopg [7, 8] 0 (fun gf v7 v8 wr => wr = V7)
              case atStart => exact rfl
              case round =>
                obtain rfl := hrel.symm
                have BS := F7.rf.box
                have s_z : g < V7.heap.size := BS.lt
                have s_c0 : V7.cell? ⟨g, 0, none⟩ = some (.slice (some ⟨bb, oo, none⟩) L.length c) := (BS.cell 0).trans rfl
                have s_f0 := BS.frozen 0
                have s_c1 : V7.cell? ⟨g, 1, none⟩ = some (.int .i64 at4) := (BS.cell 1).trans rfl
                have s_f1 := BS.frozen 1
                have s_c2 : V7.cell? ⟨g, 2, none⟩ = some (.int .i64 4) := (BS.cell 2).trans rfl
                have s_f2 := BS.frozen 2
                go_wp2_with fail
                go_quiet (fail)
                have FQ := F7.below (bl_drewN (Below.refl _ _) nq)
                have GQ := G7.below (bl_drewN (Below.refl _ _) nq)
                have NQ := N7.below (bl_drewN (Below.refl _ _) nq)
                have OE : (V7.drewN nq).ownsRow (V3.heap.size + 1) 3 1 (.slice none 0 0) ([] : List Int).length (([] : List Int).map (Value.int .i64)) := own_nil _ _ _ _
                clear F7 G7 N7 BS s_z s_c0 s_f0 s_c1 s_f1 s_c2 s_f2
                generalize V7.drewN nq = VQ at FQ GQ NQ OE ⊢
                have UA := U3.out.rd_ GQ (by omega)
                have NB : Blk (VQ.alloc (.cells #[.int .i64 v, .slice none 0 0] 84)) VQ.heap.size 84 #[.int .i64 v, .slice none 0 0] := Blk.new _ _ _
                have bA := bl_alloc (Below.refl _ VQ) (.cells #[.int .i64 v, .slice none 0 0] 84)
                obtain ⟨D6, d6, Y, hrun, O6, hgr, how⟩ := p_set (ty := 34) Tryd.underlying34 (by decide) finfo_S (UA.below bA) (own_below (own_more OE (by omega)) bA) NB (by omega) (FQ.alloc _).size
                have M6 := (FQ.alloc (.cells #[.int .i64 v, .slice none 0 0] 84)).grown how hgr
                have MB := M6.box
                have FB := FQ.box
                have NBX := NQ
                clear UA NB bA hgr how FQ GQ OE NQ
                have x_z : w.heap.size + 1 < VQ.heap.size := FB.lt
                have x_c0 : VQ.cell? ⟨w.heap.size + 1, 0, none⟩ = some (.int .i64 3) := (FB.cell 0).trans rfl
                have x_f0 := FB.frozen 0
                have x_c1 : VQ.cell? ⟨w.heap.size + 1, 1, none⟩ = some (.int .i64 0) := (FB.cell 1).trans rfl
                have x_f1 := FB.frozen 1
                have x_c2 : VQ.cell? ⟨w.heap.size + 1, 2, none⟩ = some (.slice none 0 0) := (FB.cell 2).trans rfl
                have x_f2 := FB.frozen 2
                have x_c3 : VQ.cell? ⟨w.heap.size + 1, 3, none⟩ = some (.slice none 0 0) := (FB.cell 3).trans rfl
                have x_f3 := FB.frozen 3
                have x_c4 : VQ.cell? ⟨w.heap.size + 1, 4, none⟩ = some (.int .i64 C) := (FB.cell 4).trans rfl
                have x_f4 := FB.frozen 4
                have x_c5 : VQ.cell? ⟨w.heap.size + 1, 5, none⟩ = some (.slice D acc.length d) := (FB.cell 5).trans rfl
                have x_f5 := FB.frozen 5
                have y_z : w.heap.size + 1 < Y.heap.size := MB.lt
                have y_c0 : Y.cell? ⟨w.heap.size + 1, 0, none⟩ = some (.int .i64 3) := (MB.cell 0).trans rfl
                have y_f0 := MB.frozen 0
                have y_c1 : Y.cell? ⟨w.heap.size + 1, 1, none⟩ = some (.int .i64 0) := (MB.cell 1).trans rfl
                have y_f1 := MB.frozen 1
                have y_c2 : Y.cell? ⟨w.heap.size + 1, 2, none⟩ = some (.slice none 0 0) := (MB.cell 2).trans rfl
                have y_f2 := MB.frozen 2
                have y_c3 : Y.cell? ⟨w.heap.size + 1, 3, none⟩ = some (.slice none 0 0) := (MB.cell 3).trans rfl
                have y_f3 := MB.frozen 3
                have y_c4 : Y.cell? ⟨w.heap.size + 1, 4, none⟩ = some (.int .i64 C) := (MB.cell 4).trans rfl
                have y_f4 := MB.frozen 4
                have y_c5 : Y.cell? ⟨w.heap.size + 1, 5, none⟩ = some (.slice D acc.length d) := (MB.cell 5).trans rfl
                have y_f5 := MB.frozen 5
                have n_z : V3.heap.size < VQ.heap.size := NBX.lt
                have n_c0 : VQ.cell? ⟨V3.heap.size, 0, none⟩ = some (.int .i64 v) := (NBX.cell 0).trans rfl
                have n_f0 := NBX.frozen 0
                have n_c1 : VQ.cell? ⟨V3.heap.size, 1, none⟩ = some (.slice none 0 0) := (NBX.cell 1).trans rfl
                have n_f1 := NBX.frozen 1
                go_wp2_with (at_builtin; refine list_app rfl (.tmp 125) (.tmp 127) 34 34 rfl (by exact hrun) ?_; clear hrun x_z x_c0 x_c1 x_c2 x_c3 x_c4 x_c5 x_f0 x_f1 x_f2 x_f3 x_f4 x_f5)
                go_roundg gk'
                case measure => omega
                case rel => exact ⟨f', at4, 4, acc ++ [(v, [])], D6, d6, by rw [List.length_append]; exact M6.put 5 _ rfl, by rw [List.length_append]; exact OwnS.set (p := ⟨w.heap.size + 1, 5, none⟩) O6 (Nat.lt_succ_self _) _, Lib.hid (S5.out _), Lib.hid (fun h => absurd h (by decide)), by rw [List.length_append]; have := HM.out; show _ + 1 ≤ _; omega⟩
          · have b0 : (er4 == 0) = false := by simpa using e40
            have S5 : Hid (∀ Y, St L at4 er4 T Y) := Lib.hid (fun Y => S4.out.some e40)
            have E40 := Lib.hid e40
            clear S4 e40
            have s_z : g < V5.heap.size := BS.lt
            have s_c0 : V5.cell? ⟨g, 0, none⟩ = some (.slice (some ⟨bb, oo, none⟩) L.length c) := (BS.cell 0).trans rfl
            have s_f0 := BS.frozen 0
            have s_c1 : V5.cell? ⟨g, 1, none⟩ = some (.int .i64 at4) := (BS.cell 1).trans rfl
            have s_f1 := BS.frozen 1
            have s_c2 : V5.cell? ⟨g, 2, none⟩ = some (.int .i64 er4) := (BS.cell 2).trans rfl
            have s_f2 := BS.frozen 2
            go_wp2_with fail
            go_quiet (fail)
            have F6 := F5.below (bl_drewN (Below.refl _ _) nq)
            have G6 := G5.below (bl_drewN (Below.refl _ _) nq)
            have N6 := N5.below (bl_drewN (Below.refl _ _) nq)
            clear F5 G5 N5 BS s_z s_c0 s_f0 s_c1 s_f1 s_c2 s_f2 i6
            generalize V5.drewN nq = V6 at F6 G6 N6 ⊢
            have BS := F6.rf.box
            have s_z : g < V6.heap.size := BS.lt
            have s_c0 : V6.cell? ⟨g, 0, none⟩ = some (.slice (some ⟨bb, oo, none⟩) L.length c) := (BS.cell 0).trans rfl
            have s_f0 := BS.frozen 0
            have s_c1 : V6.cell? ⟨g, 1, none⟩ = some (.int .i64 at4) := (BS.cell 1).trans rfl
            have s_f1 := BS.frozen 1
            have s_c2 : V6.cell? ⟨g, 2, none⟩ = some (.int .i64 er4) := (BS.cell 2).trans rfl
            have s_f2 := BS.frozen 2
            go_wp2_with fail
            clear BS s_z s_c0 s_f0 s_c1 s_f1 s_c2 s_f2
            go_loopg [7, 8] 0 (fun gf v7 v8 wr => wr = V6)
            case atStart => exact rfl
            case round =>
              obtain rfl := hrel.symm
              have BS := F6.rf.box
              have s_z : g < V6.heap.size := BS.lt
              have s_c0 : V6.cell? ⟨g, 0, none⟩ = some (.slice (some ⟨bb, oo, none⟩) L.length c) := (BS.cell 0).trans rfl
              have s_f0 := BS.frozen 0
              have s_c1 : V6.cell? ⟨g, 1, none⟩ = some (.int .i64 at4) := (BS.cell 1).trans rfl
              have s_f1 := BS.frozen 1
              have s_c2 : V6.cell? ⟨g, 2, none⟩ = some (.int .i64 er4) := (BS.cell 2).trans rfl
              have s_f2 := BS.frozen 2
              go_wp2_with fail
              go_quiet (fail)
              have FQ := F6.below (bl_drewN (Below.refl _ _) nq)
              have GQ := G6.below (bl_drewN (Below.refl _ _) nq)
              have NQ := N6.below (bl_drewN (Below.refl _ _) nq)
              have OE : (V6.drewN nq).ownsRow (V3.heap.size + 1) 3 1 (.slice none 0 0) ([] : List Int).length (([] : List Int).map (Value.int .i64)) := own_nil _ _ _ _
              clear F6 G6 N6 BS s_z s_c0 s_f0 s_c1 s_f1 s_c2 s_f2
              generalize V6.drewN nq = VQ at FQ GQ NQ OE ⊢
              have UA := U3.out.rd_ GQ (by omega)
              have NB : Blk (VQ.alloc (.cells #[.int .i64 v, .slice none 0 0] 84)) VQ.heap.size 84 #[.int .i64 v, .slice none 0 0] := Blk.new _ _ _
              have bA := bl_alloc (Below.refl _ VQ) (.cells #[.int .i64 v, .slice none 0 0] 84)
              obtain ⟨D6, d6, Y, hrun, O6, hgr, how⟩ := p_set (ty := 34) Tryd.underlying34 (by decide) finfo_S (UA.below bA) (own_below (own_more OE (by omega)) bA) NB (by omega) (FQ.alloc _).size
              have M6 := (FQ.alloc (.cells #[.int .i64 v, .slice none 0 0] 84)).grown how hgr
              have MB := M6.box
              have FB := FQ.box
              have NBX := NQ
              clear UA NB bA hgr how FQ GQ OE NQ
              have x_z : w.heap.size + 1 < VQ.heap.size := FB.lt
              have x_c0 : VQ.cell? ⟨w.heap.size + 1, 0, none⟩ = some (.int .i64 3) := (FB.cell 0).trans rfl
              have x_f0 := FB.frozen 0
              have x_c1 : VQ.cell? ⟨w.heap.size + 1, 1, none⟩ = some (.int .i64 0) := (FB.cell 1).trans rfl
              have x_f1 := FB.frozen 1
              have x_c2 : VQ.cell? ⟨w.heap.size + 1, 2, none⟩ = some (.slice none 0 0) := (FB.cell 2).trans rfl
              have x_f2 := FB.frozen 2
              have x_c3 : VQ.cell? ⟨w.heap.size + 1, 3, none⟩ = some (.slice none 0 0) := (FB.cell 3).trans rfl
              have x_f3 := FB.frozen 3
              have x_c4 : VQ.cell? ⟨w.heap.size + 1, 4, none⟩ = some (.int .i64 C) := (FB.cell 4).trans rfl
              have x_f4 := FB.frozen 4
              have x_c5 : VQ.cell? ⟨w.heap.size + 1, 5, none⟩ = some (.slice D acc.length d) := (FB.cell 5).trans rfl
              have x_f5 := FB.frozen 5
              have y_z : w.heap.size + 1 < Y.heap.size := MB.lt
              have y_c0 : Y.cell? ⟨w.heap.size + 1, 0, none⟩ = some (.int .i64 3) := (MB.cell 0).trans rfl
              have y_f0 := MB.frozen 0
              have y_c1 : Y.cell? ⟨w.heap.size + 1, 1, none⟩ = some (.int .i64 0) := (MB.cell 1).trans rfl
              have y_f1 := MB.frozen 1
              have y_c2 : Y.cell? ⟨w.heap.size + 1, 2, none⟩ = some (.slice none 0 0) := (MB.cell 2).trans rfl
              have y_f2 := MB.frozen 2
              have y_c3 : Y.cell? ⟨w.heap.size + 1, 3, none⟩ = some (.slice none 0 0) := (MB.cell 3).trans rfl
              have y_f3 := MB.frozen 3
              have y_c4 : Y.cell? ⟨w.heap.size + 1, 4, none⟩ = some (.int .i64 C) := (MB.cell 4).trans rfl
              have y_f4 := MB.frozen 4
              have y_c5 : Y.cell? ⟨w.heap.size + 1, 5, none⟩ = some (.slice D acc.length d) := (MB.cell 5).trans rfl
              have y_f5 := MB.frozen 5
              have n_z : V3.heap.size < VQ.heap.size := NBX.lt
              have n_c0 : VQ.cell? ⟨V3.heap.size, 0, none⟩ = some (.int .i64 v) := (NBX.cell 0).trans rfl
              have n_f0 := NBX.frozen 0
              have n_c1 : VQ.cell? ⟨V3.heap.size, 1, none⟩ = some (.slice none 0 0) := (NBX.cell 1).trans rfl
              have n_f1 := NBX.frozen 1
              go_wp2_with (at_builtin; refine list_app rfl (.tmp 125) (.tmp 127) 34 34 rfl (by exact hrun) ?_; clear hrun x_z x_c0 x_c1 x_c2 x_c3 x_c4 x_c5 x_f0 x_f1 x_f2 x_f3 x_f4 x_f5)
              go_roundg gk'
              case measure => omega
              case rel => exact ⟨f', at4, er4, acc ++ [(v, [])], D6, d6, by rw [List.length_append]; exact M6.put 5 _ rfl, by rw [List.length_append]; exact OwnS.set (p := ⟨w.heap.size + 1, 5, none⟩) O6 (Nat.lt_succ_self _) _, Lib.hid (S5.out _), Lib.hid (fun h => absurd h E40.out), by rw [List.length_append]; have := HM.out; show _ + 1 ≤ _; omega⟩
      | false =>
        simp only [Bool.false_eq_true, if_false] at hI
        replace HS : Hid (St L at_ 0 T (.ok ⟨3, 0, [], [], C, acc⟩ (L.drop at_))) := Lib.hid hI
        clear hI HM hb
        have s_z : g < wr.heap.size := B.lt
        have s_c0 : wr.cell? ⟨g, 0, none⟩ = some (.slice (some ⟨bb, oo, none⟩) L.length c) := (B.cell 0).trans rfl
        have s_f0 := B.frozen 0
        have s_c1 : wr.cell? ⟨g, 1, none⟩ = some (.int .i64 at_) := (B.cell 1).trans rfl
        have s_f1 := B.frozen 1
        have s_c2 : wr.cell? ⟨g, 2, none⟩ = some (.int .i64 0) := (B.cell 2).trans rfl
        have s_f2 := B.frozen 2
        go_wp2_with fail
        clear s_z s_c0 s_f0 s_c1 s_f1 s_c2 s_f2 B
        refine HI.out.mono ?_; rintro e V1 ⟨rfl, hb1⟩
        have F1 := FR.below hb1
        have O1 := HO.below hb1
        clear HI FR HO hb1
        have e1 : ¬ w.heap.size + 1 = w.heap.size := by omega
        have e2 : ¬ w.heap.size = w.heap.size + 1 := by omega
        have BX := F1.box
        have BZ := F1.res
        have r_z : w.heap.size + 1 < V1.heap.size := BX.lt
        have r_c0 : V1.cell? ⟨w.heap.size + 1, 0, none⟩ = some (.int .i64 3) := (BX.cell 0).trans rfl
        have r_f0 := BX.frozen 0
        have r_c1 : V1.cell? ⟨w.heap.size + 1, 1, none⟩ = some (.int .i64 0) := (BX.cell 1).trans rfl
        have r_f1 := BX.frozen 1
        have r_c2 : V1.cell? ⟨w.heap.size + 1, 2, none⟩ = some (.slice none 0 0) := (BX.cell 2).trans rfl
        have r_f2 := BX.frozen 2
        have r_c3 : V1.cell? ⟨w.heap.size + 1, 3, none⟩ = some (.slice none 0 0) := (BX.cell 3).trans rfl
        have r_f3 := BX.frozen 3
        have r_c4 : V1.cell? ⟨w.heap.size + 1, 4, none⟩ = some (.int .i64 C) := (BX.cell 4).trans rfl
        have r_f4 := BX.frozen 4
        have r_c5 : V1.cell? ⟨w.heap.size + 1, 5, none⟩ = some (.slice D acc.length d) := (BX.cell 5).trans rfl
        have r_f5 := BX.frozen 5
        have z_z : w.heap.size < V1.heap.size := BZ.lt
        have z_c0 : V1.cell? ⟨w.heap.size, 0, none⟩ = some (.int .i64 0) := (BZ.cell 0).trans rfl
        have z_f0 := BZ.frozen 0
        have z_c1 : V1.cell? ⟨w.heap.size, 1, none⟩ = some (.int .i64 0) := (BZ.cell 1).trans rfl
        have z_f1 := BZ.frozen 1
        have z_c2 : V1.cell? ⟨w.heap.size, 2, none⟩ = some (.slice none 0 0) := (BZ.cell 2).trans rfl
        have z_f2 := BZ.frozen 2
        have z_c3 : V1.cell? ⟨w.heap.size, 3, none⟩ = some (.slice none 0 0) := (BZ.cell 3).trans rfl
        have z_f3 := BZ.frozen 3
        have z_c4 : V1.cell? ⟨w.heap.size, 4, none⟩ = some (.int .i64 0) := (BZ.cell 4).trans rfl
        have z_f4 := BZ.frozen 4
        have z_c5 : V1.cell? ⟨w.heap.size, 5, none⟩ = some (.slice none 0 0) := (BZ.cell 5).trans rfl
        have z_f5 := BZ.frozen 5
        go_wp2_with fail
        refine bodyPost_ret (v := .agg #[.int .i64 3, .int .i64 0, .slice none 0 0, .slice none 0 0, .int .i64 C, .slice D acc.length d]) (by simp [results, Tryd.results27, go_sem, e1, e2, z_z, z_c0, z_c1, z_c2, z_c3, z_c4, z_c5, z_f0, z_f1, z_f2, z_f3, z_f4, z_f5]) rfl ?_
        exact F1.fin (I := ⟨3, 0, [], [], C, acc⟩) (D1 := none) (d1 := 0) (D2 := none) (d2 := 0) rfl ⟨own_nil _ _ _ _, r_nil _ _ _ _, O1⟩ HS.out
    · have b0 : (er == 0) = false := by simpa using h0
      replace HS : Hid (St L at_ er T (.ok ⟨3, 0, [], [], C, acc⟩ (L.drop at_))) := Lib.hid (HS.out.some h0)
      have B := FR.rf.box
      clear HM h0
      have F1 := FR
      have O1 := HO
      clear FR HO
      have s_z : g < wr.heap.size := B.lt
      have s_c0 : wr.cell? ⟨g, 0, none⟩ = some (.slice (some ⟨bb, oo, none⟩) L.length c) := (B.cell 0).trans rfl
      have s_f0 := B.frozen 0
      have s_c1 : wr.cell? ⟨g, 1, none⟩ = some (.int .i64 at_) := (B.cell 1).trans rfl
      have s_f1 := B.frozen 1
      have s_c2 : wr.cell? ⟨g, 2, none⟩ = some (.int .i64 er) := (B.cell 2).trans rfl
      have s_f2 := B.frozen 2
      have e1 : ¬ w.heap.size + 1 = w.heap.size := by omega
      have e2 : ¬ w.heap.size = w.heap.size + 1 := by omega
      have BX := F1.box
      have BZ := F1.res
      have r_z : w.heap.size + 1 < wr.heap.size := BX.lt
      have r_c0 : wr.cell? ⟨w.heap.size + 1, 0, none⟩ = some (.int .i64 3) := (BX.cell 0).trans rfl
      have r_f0 := BX.frozen 0
      have r_c1 : wr.cell? ⟨w.heap.size + 1, 1, none⟩ = some (.int .i64 0) := (BX.cell 1).trans rfl
      have r_f1 := BX.frozen 1
      have r_c2 : wr.cell? ⟨w.heap.size + 1, 2, none⟩ = some (.slice none 0 0) := (BX.cell 2).trans rfl
      have r_f2 := BX.frozen 2
      have r_c3 : wr.cell? ⟨w.heap.size + 1, 3, none⟩ = some (.slice none 0 0) := (BX.cell 3).trans rfl
      have r_f3 := BX.frozen 3
      have r_c4 : wr.cell? ⟨w.heap.size + 1, 4, none⟩ = some (.int .i64 C) := (BX.cell 4).trans rfl
      have r_f4 := BX.frozen 4
      have r_c5 : wr.cell? ⟨w.heap.size + 1, 5, none⟩ = some (.slice D acc.length d) := (BX.cell 5).trans rfl
      have r_f5 := BX.frozen 5
      have z_z : w.heap.size < wr.heap.size := BZ.lt
      have z_c0 : wr.cell? ⟨w.heap.size, 0, none⟩ = some (.int .i64 0) := (BZ.cell 0).trans rfl
      have z_f0 := BZ.frozen 0
      have z_c1 : wr.cell? ⟨w.heap.size, 1, none⟩ = some (.int .i64 0) := (BZ.cell 1).trans rfl
      have z_f1 := BZ.frozen 1
      have z_c2 : wr.cell? ⟨w.heap.size, 2, none⟩ = some (.slice none 0 0) := (BZ.cell 2).trans rfl
      have z_f2 := BZ.frozen 2
      have z_c3 : wr.cell? ⟨w.heap.size, 3, none⟩ = some (.slice none 0 0) := (BZ.cell 3).trans rfl
      have z_f3 := BZ.frozen 3
      have z_c4 : wr.cell? ⟨w.heap.size, 4, none⟩ = some (.int .i64 0) := (BZ.cell 4).trans rfl
      have z_f4 := BZ.frozen 4
      have z_c5 : wr.cell? ⟨w.heap.size, 5, none⟩ = some (.slice none 0 0) := (BZ.cell 5).trans rfl
      have z_f5 := BZ.frozen 5
      go_wp2_with fail
      refine bodyPost_ret (v := .agg #[.int .i64 3, .int .i64 0, .slice none 0 0, .slice none 0 0, .int .i64 C, .slice D acc.length d]) (by simp [results, Tryd.results27, go_sem, e1, e2, z_z, z_c0, z_c1, z_c2, z_c3, z_c4, z_c5, z_f0, z_f1, z_f2, z_f3, z_f4, z_f5]) rfl ?_
      exact F1.fin (I := ⟨3, 0, [], [], C, acc⟩) (D1 := none) (d1 := 0) (D2 := none) (d2 := 0) rfl ⟨own_nil _ _ _ _, r_nil _ _ _ _, O1⟩ HS.out
end
end Go.Proofs.YtklomjpnmmaogaaDoor
