/- The document's knapsack. -/
import Derived.Test.YtklomjpnmmaogaaDoorFC
import Derived.LoopTactic
import Derived.Deep.LoopGhost
namespace Go.Proofs.YtklomjpnmmaogaaDoor
open Go Go.RowKit
set_option linter.unusedVariables false
set_option linter.unusedSimpArgs false
set_option maxRecDepth 100000

theorem finfo_A2 : (Tryd.prog.info? 83).map (fun i => (i.zero, i.size, i.bytes)) = some (some (.agg #[.int .i64 0, .int .i64 0]), 2, 16) := by kernel_rfl
section
variable {w : World} {g c at_ : Nat} {A : Option Addr} {L : List Tok}
set_option maxHeartbeats 6400000 in
theorem fknap_any (h : Rf w g A c L at_ 0) : Calls Tryd.prog 25 #[.pointer (some ⟨g, 0, none⟩)] w fun e w' => FkPost w g A c L (knapP (L.drop at_)) e w' := by
  obtain ⟨T, hT⟩ : ∃ T, knapP (L.drop at_) = T := ⟨_, rfl⟩
  rw [hT]
  unfold knapP at hT
  have S0 := Lib.hid (St.start (L := L) (at_ := at_) hT)
  have hgl := h.gl
  have h0 := (h.below (bl_alloc (Below.refl _ _) (.cells #[.int .i64 0, .int .i64 0, .slice none 0 0, .slice none 0 0, .int .i64 0, .slice none 0 0] 36))).below (bl_alloc (Below.refl _ _) (.cells #[.int .i64 0, .int .i64 0, .slice none 0 0, .slice none 0 0, .int .i64 0, .slice none 0 0] 36))
  have R0 : Blk ((w.alloc (.cells #[.int .i64 0, .int .i64 0, .slice none 0 0, .slice none 0 0, .int .i64 0, .slice none 0 0] 36)).alloc (.cells #[.int .i64 0, .int .i64 0, .slice none 0 0, .slice none 0 0, .int .i64 0, .slice none 0 0] 36)) w.heap.size 36 #[.int .i64 0, .int .i64 0, .slice none 0 0, .slice none 0 0, .int .i64 0, .slice none 0 0] := (Blk.new _ _ _).alloc _
  have B0 : Blk ((w.alloc (.cells #[.int .i64 0, .int .i64 0, .slice none 0 0, .slice none 0 0, .int .i64 0, .slice none 0 0] 36)).alloc (.cells #[.int .i64 0, .int .i64 0, .slice none 0 0, .slice none 0 0, .int .i64 0, .slice none 0 0] 36)) (w.heap.size + 1) 36 #[.int .i64 0, .int .i64 0, .slice none 0 0, .slice none 0 0, .int .i64 0, .slice none 0 0] := Blk.new' (by simp) _ _
  have F0 : FrF ((w.alloc (.cells #[.int .i64 0, .int .i64 0, .slice none 0 0, .slice none 0 0, .int .i64 0, .slice none 0 0] 36)).alloc (.cells #[.int .i64 0, .int .i64 0, .slice none 0 0, .slice none 0 0, .int .i64 0, .slice none 0 0] 36)) w g A c L (w.heap.size + 1) at_ 0 #[.int .i64 0, .int .i64 0, .slice none 0 0, .slice none 0 0, .int .i64 0, .slice none 0 0] := ⟨((Gr.refl w g).alloc _).alloc _, h0, R0, B0, Nat.lt_succ_self _, hgl⟩
  clear h h0 R0 B0 hT
  go_enter Tryd.func25, Tryd.ntmps25
  go_wp2_with fail
  refine (fword_any F0.rf wCap).mono ?_; rintro e V1 ⟨at1, er1, rfl, k1⟩
  have F1 := F0.call k1
  have S1 := Lib.hid (S0.out.bind k1)
  clear F0 S0 k1
  go_wp2_with fail
  refine (fnum_any F1.rf 0 2147483648).mono ?_; rintro e V2 ⟨C, at2, er2, rfl, k2⟩
  have F2 := F1.call k2
  have S2 : Hid (St L at2 er2 T ((itemsP (L.drop at2).length [] (L.drop at2)).bind fun xs l3 => .ok ⟨0, C, xs, [], 0, []⟩ l3)) := Lib.hid (S1.out.bind k2)
  clear F1 S1 k2
  have B := F2.box
  have b_z : w.heap.size + 1 < V2.heap.size := B.lt
  have b_c0 : V2.cell? ⟨w.heap.size + 1, 0, none⟩ = some (.int .i64 0) := (B.cell 0).trans rfl
  have b_f0 := B.frozen 0
  have b_c1 : V2.cell? ⟨w.heap.size + 1, 1, none⟩ = some (.int .i64 0) := (B.cell 1).trans rfl
  have b_f1 := B.frozen 1
  have b_c2 : V2.cell? ⟨w.heap.size + 1, 2, none⟩ = some (.slice none 0 0) := (B.cell 2).trans rfl
  have b_f2 := B.frozen 2
  have b_c3 : V2.cell? ⟨w.heap.size + 1, 3, none⟩ = some (.slice none 0 0) := (B.cell 3).trans rfl
  have b_f3 := B.frozen 3
  have b_c4 : V2.cell? ⟨w.heap.size + 1, 4, none⟩ = some (.int .i64 0) := (B.cell 4).trans rfl
  have b_f4 := B.frozen 4
  have b_c5 : V2.cell? ⟨w.heap.size + 1, 5, none⟩ = some (.slice none 0 0) := (B.cell 5).trans rfl
  have b_f5 := B.frozen 5
  have F3 := F2.put 1 (.int .i64 C) rfl
  clear F2 B
  go_wp2_with fail
  clear b_z b_c0 b_f0 b_c1 b_f1 b_c2 b_f2 b_c3 b_f3 b_c4 b_f4 b_c5 b_f5
  generalize V2.setCell ⟨w.heap.size + 1, 1, none⟩ (.int .i64 C) = W0 at F3 ⊢
  go_loopg [] L.length (fun gf wr => ∃ (f at_ : Nat) (er : Int) (acc : List (Int × Int)) (D : Option Addr) (d : Nat), FrF wr w g A c L (w.heap.size + 1) at_ er #[.int .i64 0, .int .i64 C, .slice D acc.length d, .slice none 0 0, .int .i64 0, .slice none 0 0] ∧ OwnP wr (w.heap.size + 1 + 1) 83 (.slice D acc.length d) acc ∧ Hid (St L at_ er T ((itemsP f acc (L.drop at_)).bind fun xs l3 => .ok ⟨0, C, xs, [], 0, []⟩ l3)) ∧ Hid (er = 0 → (L.drop at_).length ≤ f ∧ f ≤ gf ∧ acc.length ≤ 4096) ∧ acc.length ≤ 4097)
  case atStart => exact ⟨_, at2, er2, [], none, 0, F3, own_nil _ _ _ _, S2, Lib.hid (fun _ => ⟨Nat.le_refl _, by rw [List.length_drop]; omega, by simp⟩), by simp⟩
  case round =>
    clear F3 S2
    obtain ⟨f, at_, er, acc, D, d, FR, HO, HS, HM, ha⟩ := hrel
    by_cases h0 : er = 0
    · subst h0
      obtain ⟨m1, m2, m3⟩ := HM.out rfl
      have hpos := FR.rf.ends.pos
      obtain ⟨f', rfl⟩ : ∃ f', f = f' + 1 := ⟨f - 1, by omega⟩
      obtain ⟨gk', rfl⟩ : ∃ g', gk = g' + 1 := ⟨gk - 1, by omega⟩
      have hI := HS.out
      rw [itemsP] at hI
      have HI := Lib.hid (fis_any FR.rf wItem)
      have B := FR.rf.box
      obtain ⟨b, hb⟩ : ∃ b, isP wItem (L.drop at_) = b := ⟨_, rfl⟩
      rw [hb] at HI hI
      cases b with
      | true =>
        simp only [if_true] at hI
        have SC : 4096 ≤ acc.length ∨ Hid (St L at_ 0 T ((wordP wItem (L.drop at_)).bind fun _ l1 => (numP 0 2147483648 l1).bind fun v l2 => (numP 0 2147483648 l2).bind fun x l3 => (itemsP f' (acc ++ [(v, x)]) l3).bind fun xs l3 => .ok ⟨0, C, xs, [], 0, []⟩ l3)) := by
          by_cases hn : 4096 ≤ acc.length
          · exact .inl hn
          · rw [if_neg hn] at hI
            rw [word_is hb]
            simp only [PR.assoc] at hI
            exact .inr (Lib.hid hI)
        have SF : 4096 ≤ acc.length → Hid (St L at_ 22 T ((wordP wItem (L.drop at_)).bind fun _ l1 => (numP 0 2147483648 l1).bind fun v l2 => (numP 0 2147483648 l2).bind fun x l3 => (itemsP f' (acc ++ [(v, x)]) l3).bind fun xs l3 => .ok ⟨0, C, xs, [], 0, []⟩ l3)) := fun hn => by
          rw [if_pos hn] at hI
          exact Lib.hid (St.failb hI (by decide))
        replace SF := Lib.hid SF
        replace SC := Lib.hid SC
        replace HM := Lib.hid m3
        have M1 := Lib.hid m1
        clear hI HS hb m1 m3
        have s_z : g < wr.heap.size := B.lt
        have s_c0 : wr.cell? ⟨g, 0, none⟩ = some (.slice A L.length c) := (B.cell 0).trans rfl
        have s_f0 := B.frozen 0
        have s_c1 : wr.cell? ⟨g, 1, none⟩ = some (.int .i64 at_) := (B.cell 1).trans rfl
        have s_f1 := B.frozen 1
        have s_c2 : wr.cell? ⟨g, 2, none⟩ = some (.int .i64 0) := (B.cell 2).trans rfl
        have s_f2 := B.frozen 2
        go_wp2_with fail
        clear s_z s_c0 s_f0 s_c1 s_f1 s_c2 s_f2 B
        refine HI.out.mono ?_; rintro e V1 ⟨rfl, hb1⟩
        have F1 := FR.below hb1
        have O1 := HO.below hb1
        clear HI FR HO hb1
        have B := F1.box
        have b_z : w.heap.size + 1 < V1.heap.size := B.lt
        have b_c0 : V1.cell? ⟨w.heap.size + 1, 0, none⟩ = some (.int .i64 0) := (B.cell 0).trans rfl
        have b_f0 := B.frozen 0
        have b_c1 : V1.cell? ⟨w.heap.size + 1, 1, none⟩ = some (.int .i64 C) := (B.cell 1).trans rfl
        have b_f1 := B.frozen 1
        have b_c2 : V1.cell? ⟨w.heap.size + 1, 2, none⟩ = some (.slice D acc.length d) := (B.cell 2).trans rfl
        have b_f2 := B.frozen 2
        have b_c3 : V1.cell? ⟨w.heap.size + 1, 3, none⟩ = some (.slice none 0 0) := (B.cell 3).trans rfl
        have b_f3 := B.frozen 3
        have b_c4 : V1.cell? ⟨w.heap.size + 1, 4, none⟩ = some (.int .i64 0) := (B.cell 4).trans rfl
        have b_f4 := B.frozen 4
        have b_c5 : V1.cell? ⟨w.heap.size + 1, 5, none⟩ = some (.slice none 0 0) := (B.cell 5).trans rfl
        have b_f5 := B.frozen 5
        by_cases hn : 4096 ≤ acc.length
        · have hn' : (acc.length : Int) ≥ 4096 := by omega
          have SX := SF.out hn
          clear SF SC
          go_wp2_with fail
          refine (ffail_any F1.rf 22).mono ?_; rintro e V2 ⟨rfl, hG, R2⟩
          rw [if_pos rfl] at R2
          have F2 := F1.meth hG R2
          have O2 := O1.rd_ hG (by have := F1.hg; omega)
          clear F1 O1 hG R2 B b_z b_c0 b_f0 b_c1 b_f1 b_c2 b_f2 b_c3 b_f3 b_c4 b_f4 b_c5 b_f5
          go_wp2_with fail
          refine (fword_any F2.rf wItem).mono ?_; rintro e V3 ⟨at3, er3, rfl, k3⟩
          have F3 := F2.call k3
          have O3 := O2.rd_ k3.gr (by have := F2.hg; omega)
          have S3 := Lib.hid (SX.out.bind k3)
          have W3 : Hid (er3 = 0 → (L.drop at3).length + 1 = (L.drop at_).length) := Lib.hid (fun h => word_len (k3.z h).2 hpos)
          have Z3 : Hid (er3 = 0 → False) := Lib.hid (fun h => absurd (k3.z h).1 (by decide))
          clear F2 O2 SX k3
          go_wp2_with fail
          refine (fnum_any F3.rf 0 2147483648).mono ?_; rintro e V4 ⟨v, at4, er4, rfl, k4⟩
          have F4 := F3.call k4
          have O4 := O3.rd_ k4.gr (by have := F3.hg; omega)
          have S4 := Lib.hid (S3.out.bind k4)
          have W4 : Hid (er4 = 0 → er3 = 0 ∧ (L.drop at4).length ≤ (L.drop at3).length) := Lib.hid (fun h => ⟨(k4.z h).1, num_len (k4.z h).2⟩)
          clear F3 O3 S3 k4
          go_wp2_with fail
          refine (fnum_any F4.rf 0 2147483648).mono ?_; rintro e V5 ⟨x, at5, er5, rfl, k5⟩
          have F5 := F4.call k5
          have O5 := O4.rd_ k5.gr (by have := F4.hg; omega)
          have S5 : Hid (St L at5 er5 T ((itemsP f' (acc ++ [(v, x)]) (L.drop at5)).bind fun xs l3 => .ok ⟨0, C, xs, [], 0, []⟩ l3)) := Lib.hid (S4.out.bind k5)
          have W5 : Hid (er5 = 0 → er4 = 0 ∧ (L.drop at5).length ≤ (L.drop at4).length) := Lib.hid (fun h => ⟨(k5.z h).1, num_len (k5.z h).2⟩)
          clear F4 O4 S4 k5
          have NB : Blk (V5.alloc (.cells #[.int .i64 v, .int .i64 x] 83)) V5.heap.size 83 #[.int .i64 v, .int .i64 x] := Blk.new _ _ _
          obtain ⟨D6, d6, Y, hrun, O6, hgr⟩ := p_pair (ty := 33) Tryd.underlying33 finfo_A2 (O5.below (bl_alloc (Below.refl _ _) (.cells #[.int .i64 v, .int .i64 x] 83))) NB (by omega) (F5.alloc (.cells #[.int .i64 v, .int .i64 x] 83)).size
          have F6 := (F5.alloc (.cells #[.int .i64 v, .int .i64 x] 83)).grown (own_base O5) hgr
          have B5 := F5.box
          have B6 := F6.box
          clear NB hgr F5 O5
          have b_z : w.heap.size + 1 < V5.heap.size := B5.lt
          have b_c0 : V5.cell? ⟨w.heap.size + 1, 0, none⟩ = some (.int .i64 0) := (B5.cell 0).trans rfl
          have b_f0 := B5.frozen 0
          have b_c1 : V5.cell? ⟨w.heap.size + 1, 1, none⟩ = some (.int .i64 C) := (B5.cell 1).trans rfl
          have b_f1 := B5.frozen 1
          have b_c2 : V5.cell? ⟨w.heap.size + 1, 2, none⟩ = some (.slice D acc.length d) := (B5.cell 2).trans rfl
          have b_f2 := B5.frozen 2
          have b_c3 : V5.cell? ⟨w.heap.size + 1, 3, none⟩ = some (.slice none 0 0) := (B5.cell 3).trans rfl
          have b_f3 := B5.frozen 3
          have b_c4 : V5.cell? ⟨w.heap.size + 1, 4, none⟩ = some (.int .i64 0) := (B5.cell 4).trans rfl
          have b_f4 := B5.frozen 4
          have b_c5 : V5.cell? ⟨w.heap.size + 1, 5, none⟩ = some (.slice none 0 0) := (B5.cell 5).trans rfl
          have b_f5 := B5.frozen 5
          have y_z : w.heap.size + 1 < Y.heap.size := B6.lt
          have y_c0 : Y.cell? ⟨w.heap.size + 1, 0, none⟩ = some (.int .i64 0) := (B6.cell 0).trans rfl
          have y_f0 := B6.frozen 0
          have y_c1 : Y.cell? ⟨w.heap.size + 1, 1, none⟩ = some (.int .i64 C) := (B6.cell 1).trans rfl
          have y_f1 := B6.frozen 1
          have y_c2 : Y.cell? ⟨w.heap.size + 1, 2, none⟩ = some (.slice D acc.length d) := (B6.cell 2).trans rfl
          have y_f2 := B6.frozen 2
          have y_c3 : Y.cell? ⟨w.heap.size + 1, 3, none⟩ = some (.slice none 0 0) := (B6.cell 3).trans rfl
          have y_f3 := B6.frozen 3
          have y_c4 : Y.cell? ⟨w.heap.size + 1, 4, none⟩ = some (.int .i64 0) := (B6.cell 4).trans rfl
          have y_f4 := B6.frozen 4
          have y_c5 : Y.cell? ⟨w.heap.size + 1, 5, none⟩ = some (.slice none 0 0) := (B6.cell 5).trans rfl
          have y_f5 := B6.frozen 5
          go_wp2_with (at_builtin; refine list_app rfl (.tmp 35) (.tmp 39) 33 33 rfl (by exact hrun) ?_; clear hrun b_z b_c0 b_c1 b_c2 b_c3 b_c4 b_c5 b_f0 b_f1 b_f2 b_f3 b_f4 b_f5)
          go_roundg gk'
          case measure => omega
          case rel => exact ⟨f', at5, er5, acc ++ [(v, x)], D6, d6, by rw [List.length_append]; exact F6.put 2 _ rfl, by rw [List.length_append]; exact OwnP.set (p := ⟨w.heap.size + 1, 2, none⟩) O6 (Nat.lt_succ_self _) _, S5, Lib.hid (fun h => by have a := W5.out h; have b := W4.out a.1; have c := W3.out b.1; have d := M1.out; have := HM.out; refine ⟨by omega, by omega, ?_⟩; rw [List.length_append]; show _ + 1 ≤ _; exact (Z3.out b.1).elim), by rw [List.length_append]; have := HM.out; show _ + 1 ≤ _; omega⟩
        · have hn' : ¬ (acc.length : Int) ≥ 4096 := by omega
          have SX : Hid (St L at_ 0 T _) := SC.out.resolve_left hn
          have HN := Lib.hid hn
          have F2 := F1
          have O2 := O1
          clear SF SC F1 O1
          go_wp2_with fail
          clear B b_z b_c0 b_f0 b_c1 b_f1 b_c2 b_f2 b_c3 b_f3 b_c4 b_f4 b_c5 b_f5
          refine (fword_any F2.rf wItem).mono ?_; rintro e V3 ⟨at3, er3, rfl, k3⟩
          have F3 := F2.call k3
          have O3 := O2.rd_ k3.gr (by have := F2.hg; omega)
          have S3 := Lib.hid (SX.out.bind k3)
          have W3 : Hid (er3 = 0 → (L.drop at3).length + 1 = (L.drop at_).length) := Lib.hid (fun h => word_len (k3.z h).2 hpos)
          clear F2 O2 SX k3
          go_wp2_with fail
          refine (fnum_any F3.rf 0 2147483648).mono ?_; rintro e V4 ⟨v, at4, er4, rfl, k4⟩
          have F4 := F3.call k4
          have O4 := O3.rd_ k4.gr (by have := F3.hg; omega)
          have S4 := Lib.hid (S3.out.bind k4)
          have W4 : Hid (er4 = 0 → er3 = 0 ∧ (L.drop at4).length ≤ (L.drop at3).length) := Lib.hid (fun h => ⟨(k4.z h).1, num_len (k4.z h).2⟩)
          clear F3 O3 S3 k4
          go_wp2_with fail
          refine (fnum_any F4.rf 0 2147483648).mono ?_; rintro e V5 ⟨x, at5, er5, rfl, k5⟩
          have F5 := F4.call k5
          have O5 := O4.rd_ k5.gr (by have := F4.hg; omega)
          have S5 : Hid (St L at5 er5 T ((itemsP f' (acc ++ [(v, x)]) (L.drop at5)).bind fun xs l3 => .ok ⟨0, C, xs, [], 0, []⟩ l3)) := Lib.hid (S4.out.bind k5)
          have W5 : Hid (er5 = 0 → er4 = 0 ∧ (L.drop at5).length ≤ (L.drop at4).length) := Lib.hid (fun h => ⟨(k5.z h).1, num_len (k5.z h).2⟩)
          clear F4 O4 S4 k5
          have NB : Blk (V5.alloc (.cells #[.int .i64 v, .int .i64 x] 83)) V5.heap.size 83 #[.int .i64 v, .int .i64 x] := Blk.new _ _ _
          obtain ⟨D6, d6, Y, hrun, O6, hgr⟩ := p_pair (ty := 33) Tryd.underlying33 finfo_A2 (O5.below (bl_alloc (Below.refl _ _) (.cells #[.int .i64 v, .int .i64 x] 83))) NB (by omega) (F5.alloc (.cells #[.int .i64 v, .int .i64 x] 83)).size
          have F6 := (F5.alloc (.cells #[.int .i64 v, .int .i64 x] 83)).grown (own_base O5) hgr
          have B5 := F5.box
          have B6 := F6.box
          clear NB hgr F5 O5
          have b_z : w.heap.size + 1 < V5.heap.size := B5.lt
          have b_c0 : V5.cell? ⟨w.heap.size + 1, 0, none⟩ = some (.int .i64 0) := (B5.cell 0).trans rfl
          have b_f0 := B5.frozen 0
          have b_c1 : V5.cell? ⟨w.heap.size + 1, 1, none⟩ = some (.int .i64 C) := (B5.cell 1).trans rfl
          have b_f1 := B5.frozen 1
          have b_c2 : V5.cell? ⟨w.heap.size + 1, 2, none⟩ = some (.slice D acc.length d) := (B5.cell 2).trans rfl
          have b_f2 := B5.frozen 2
          have b_c3 : V5.cell? ⟨w.heap.size + 1, 3, none⟩ = some (.slice none 0 0) := (B5.cell 3).trans rfl
          have b_f3 := B5.frozen 3
          have b_c4 : V5.cell? ⟨w.heap.size + 1, 4, none⟩ = some (.int .i64 0) := (B5.cell 4).trans rfl
          have b_f4 := B5.frozen 4
          have b_c5 : V5.cell? ⟨w.heap.size + 1, 5, none⟩ = some (.slice none 0 0) := (B5.cell 5).trans rfl
          have b_f5 := B5.frozen 5
          have y_z : w.heap.size + 1 < Y.heap.size := B6.lt
          have y_c0 : Y.cell? ⟨w.heap.size + 1, 0, none⟩ = some (.int .i64 0) := (B6.cell 0).trans rfl
          have y_f0 := B6.frozen 0
          have y_c1 : Y.cell? ⟨w.heap.size + 1, 1, none⟩ = some (.int .i64 C) := (B6.cell 1).trans rfl
          have y_f1 := B6.frozen 1
          have y_c2 : Y.cell? ⟨w.heap.size + 1, 2, none⟩ = some (.slice D acc.length d) := (B6.cell 2).trans rfl
          have y_f2 := B6.frozen 2
          have y_c3 : Y.cell? ⟨w.heap.size + 1, 3, none⟩ = some (.slice none 0 0) := (B6.cell 3).trans rfl
          have y_f3 := B6.frozen 3
          have y_c4 : Y.cell? ⟨w.heap.size + 1, 4, none⟩ = some (.int .i64 0) := (B6.cell 4).trans rfl
          have y_f4 := B6.frozen 4
          have y_c5 : Y.cell? ⟨w.heap.size + 1, 5, none⟩ = some (.slice none 0 0) := (B6.cell 5).trans rfl
          have y_f5 := B6.frozen 5
          go_wp2_with (at_builtin; refine list_app rfl (.tmp 35) (.tmp 39) 33 33 rfl (by exact hrun) ?_; clear hrun b_z b_c0 b_c1 b_c2 b_c3 b_c4 b_c5 b_f0 b_f1 b_f2 b_f3 b_f4 b_f5)
          go_roundg gk'
          case measure => omega
          case rel => exact ⟨f', at5, er5, acc ++ [(v, x)], D6, d6, by rw [List.length_append]; exact F6.put 2 _ rfl, by rw [List.length_append]; exact OwnP.set (p := ⟨w.heap.size + 1, 2, none⟩) O6 (Nat.lt_succ_self _) _, S5, Lib.hid (fun h => by have a := W5.out h; have b := W4.out a.1; have c := W3.out b.1; have d := M1.out; have := HM.out; refine ⟨by omega, by omega, ?_⟩; rw [List.length_append]; show _ + 1 ≤ _; have := HN.out; omega), by rw [List.length_append]; have := HM.out; show _ + 1 ≤ _; omega⟩
      | false =>
        simp only [Bool.false_eq_true, if_false] at hI
        replace HS : Hid (St L at_ 0 T (.ok ⟨0, C, acc, [], 0, []⟩ (L.drop at_))) := Lib.hid hI
        clear hI HM hb
        have s_z : g < wr.heap.size := B.lt
        have s_c0 : wr.cell? ⟨g, 0, none⟩ = some (.slice A L.length c) := (B.cell 0).trans rfl
        have s_f0 := B.frozen 0
        have s_c1 : wr.cell? ⟨g, 1, none⟩ = some (.int .i64 at_) := (B.cell 1).trans rfl
        have s_f1 := B.frozen 1
        have s_c2 : wr.cell? ⟨g, 2, none⟩ = some (.int .i64 0) := (B.cell 2).trans rfl
        have s_f2 := B.frozen 2
        go_wp2_with fail
        clear s_z s_c0 s_f0 s_c1 s_f1 s_c2 s_f2 B
        refine HI.out.mono ?_; rintro e V1 ⟨rfl, hb1⟩
        have F1 := FR.below hb1
        have O1 := HO.below hb1
        clear HI FR HO hb1
        have e1 : ¬ w.heap.size + 1 = w.heap.size := by omega
        have e2 : ¬ w.heap.size = w.heap.size + 1 := by omega
        have BX := F1.box
        have BZ := F1.res
        have r_z : w.heap.size + 1 < V1.heap.size := BX.lt
        have r_c0 : V1.cell? ⟨w.heap.size + 1, 0, none⟩ = some (.int .i64 0) := (BX.cell 0).trans rfl
        have r_f0 := BX.frozen 0
        have r_c1 : V1.cell? ⟨w.heap.size + 1, 1, none⟩ = some (.int .i64 C) := (BX.cell 1).trans rfl
        have r_f1 := BX.frozen 1
        have r_c2 : V1.cell? ⟨w.heap.size + 1, 2, none⟩ = some (.slice D acc.length d) := (BX.cell 2).trans rfl
        have r_f2 := BX.frozen 2
        have r_c3 : V1.cell? ⟨w.heap.size + 1, 3, none⟩ = some (.slice none 0 0) := (BX.cell 3).trans rfl
        have r_f3 := BX.frozen 3
        have r_c4 : V1.cell? ⟨w.heap.size + 1, 4, none⟩ = some (.int .i64 0) := (BX.cell 4).trans rfl
        have r_f4 := BX.frozen 4
        have r_c5 : V1.cell? ⟨w.heap.size + 1, 5, none⟩ = some (.slice none 0 0) := (BX.cell 5).trans rfl
        have r_f5 := BX.frozen 5
        have z_z : w.heap.size < V1.heap.size := BZ.lt
        have z_c0 : V1.cell? ⟨w.heap.size, 0, none⟩ = some (.int .i64 0) := (BZ.cell 0).trans rfl
        have z_f0 := BZ.frozen 0
        have z_c1 : V1.cell? ⟨w.heap.size, 1, none⟩ = some (.int .i64 0) := (BZ.cell 1).trans rfl
        have z_f1 := BZ.frozen 1
        have z_c2 : V1.cell? ⟨w.heap.size, 2, none⟩ = some (.slice none 0 0) := (BZ.cell 2).trans rfl
        have z_f2 := BZ.frozen 2
        have z_c3 : V1.cell? ⟨w.heap.size, 3, none⟩ = some (.slice none 0 0) := (BZ.cell 3).trans rfl
        have z_f3 := BZ.frozen 3
        have z_c4 : V1.cell? ⟨w.heap.size, 4, none⟩ = some (.int .i64 0) := (BZ.cell 4).trans rfl
        have z_f4 := BZ.frozen 4
        have z_c5 : V1.cell? ⟨w.heap.size, 5, none⟩ = some (.slice none 0 0) := (BZ.cell 5).trans rfl
        have z_f5 := BZ.frozen 5
        go_wp2_with fail
        refine bodyPost_ret (v := .agg #[.int .i64 0, .int .i64 C, .slice D acc.length d, .slice none 0 0, .int .i64 0, .slice none 0 0]) (by simp [results, Tryd.results25, go_sem, e1, e2, z_z, z_c0, z_c1, z_c2, z_c3, z_c4, z_c5, z_f0, z_f1, z_f2, z_f3, z_f4, z_f5]) rfl ?_
        exact F1.fin (I := ⟨0, C, acc, [], 0, []⟩) (D2 := none) (d2 := 0) (D3 := none) (d3 := 0) rfl ⟨O1, r_nil _ _ _ _, s_nil _ _ _ _⟩ HS.out
    · have b0 : (er == 0) = false := by simpa using h0
      replace HS : Hid (St L at_ er T (.ok ⟨0, C, acc, [], 0, []⟩ (L.drop at_))) := Lib.hid (HS.out.some h0)
      have B := FR.rf.box
      clear HM h0
      have F1 := FR
      have O1 := HO
      clear FR HO
      have s_z : g < wr.heap.size := B.lt
      have s_c0 : wr.cell? ⟨g, 0, none⟩ = some (.slice A L.length c) := (B.cell 0).trans rfl
      have s_f0 := B.frozen 0
      have s_c1 : wr.cell? ⟨g, 1, none⟩ = some (.int .i64 at_) := (B.cell 1).trans rfl
      have s_f1 := B.frozen 1
      have s_c2 : wr.cell? ⟨g, 2, none⟩ = some (.int .i64 er) := (B.cell 2).trans rfl
      have s_f2 := B.frozen 2
      have e1 : ¬ w.heap.size + 1 = w.heap.size := by omega
      have e2 : ¬ w.heap.size = w.heap.size + 1 := by omega
      have BX := F1.box
      have BZ := F1.res
      have r_z : w.heap.size + 1 < wr.heap.size := BX.lt
      have r_c0 : wr.cell? ⟨w.heap.size + 1, 0, none⟩ = some (.int .i64 0) := (BX.cell 0).trans rfl
      have r_f0 := BX.frozen 0
      have r_c1 : wr.cell? ⟨w.heap.size + 1, 1, none⟩ = some (.int .i64 C) := (BX.cell 1).trans rfl
      have r_f1 := BX.frozen 1
      have r_c2 : wr.cell? ⟨w.heap.size + 1, 2, none⟩ = some (.slice D acc.length d) := (BX.cell 2).trans rfl
      have r_f2 := BX.frozen 2
      have r_c3 : wr.cell? ⟨w.heap.size + 1, 3, none⟩ = some (.slice none 0 0) := (BX.cell 3).trans rfl
      have r_f3 := BX.frozen 3
      have r_c4 : wr.cell? ⟨w.heap.size + 1, 4, none⟩ = some (.int .i64 0) := (BX.cell 4).trans rfl
      have r_f4 := BX.frozen 4
      have r_c5 : wr.cell? ⟨w.heap.size + 1, 5, none⟩ = some (.slice none 0 0) := (BX.cell 5).trans rfl
      have r_f5 := BX.frozen 5
      have z_z : w.heap.size < wr.heap.size := BZ.lt
      have z_c0 : wr.cell? ⟨w.heap.size, 0, none⟩ = some (.int .i64 0) := (BZ.cell 0).trans rfl
      have z_f0 := BZ.frozen 0
      have z_c1 : wr.cell? ⟨w.heap.size, 1, none⟩ = some (.int .i64 0) := (BZ.cell 1).trans rfl
      have z_f1 := BZ.frozen 1
      have z_c2 : wr.cell? ⟨w.heap.size, 2, none⟩ = some (.slice none 0 0) := (BZ.cell 2).trans rfl
      have z_f2 := BZ.frozen 2
      have z_c3 : wr.cell? ⟨w.heap.size, 3, none⟩ = some (.slice none 0 0) := (BZ.cell 3).trans rfl
      have z_f3 := BZ.frozen 3
      have z_c4 : wr.cell? ⟨w.heap.size, 4, none⟩ = some (.int .i64 0) := (BZ.cell 4).trans rfl
      have z_f4 := BZ.frozen 4
      have z_c5 : wr.cell? ⟨w.heap.size, 5, none⟩ = some (.slice none 0 0) := (BZ.cell 5).trans rfl
      have z_f5 := BZ.frozen 5
      go_wp2_with fail
      refine bodyPost_ret (v := .agg #[.int .i64 0, .int .i64 C, .slice D acc.length d, .slice none 0 0, .int .i64 0, .slice none 0 0]) (by simp [results, Tryd.results25, go_sem, e1, e2, z_z, z_c0, z_c1, z_c2, z_c3, z_c4, z_c5, z_f0, z_f1, z_f2, z_f3, z_f4, z_f5]) rfl ?_
      exact F1.fin (I := ⟨0, C, acc, [], 0, []⟩) (D2 := none) (d2 := 0) (D3 := none) (d3 := 0) rfl ⟨O1, r_nil _ _ _ _, s_nil _ _ _ _⟩ HS.out
end
end Go.Proofs.YtklomjpnmmaogaaDoor
