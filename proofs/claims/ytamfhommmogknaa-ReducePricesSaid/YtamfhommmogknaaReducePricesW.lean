/- The walk of ReducePrices. -/
import Derived.Test.YtamfhommmogknaaDT
namespace Go.Proofs.Ytamfhommmogknaa
open Go Go.RowKit
set_option linter.unusedVariables false
set_option linter.unusedSimpArgs false
set_option maxRecDepth 100000

theorem tame9 (c : List (List Int)) (no : List (List Bool)) (A1 A2 : Option Addr) (c1 c2 : Nat) (w : World) {B : Nat} (hI : TabAt w B c no A1 c1 A2 c2) :
    Calls Try.prog 7 #[.slice A1 c.length c1, .slice A2 no.length c2, .int .i64 9] w fun e w' => TamePost w 9 e w' := tame_any c no A1 A2 c1 c2 9 (by omega) w hI
set_option maxHeartbeats 12800000 in
theorem ReducePrices_walk (c : List (List Int)) (no : List (List Bool)) (A1 A2 : Option Addr) (c1 c2 : Nat) (w : World) (hI : TabAt w w.heap.size c no A1 c1 A2 c2) :
    Calls Try.prog 3 #[.slice A1 c.length c1, .slice A2 no.length c2] w fun e w' => e = .returned (.bool true) ∧ Below w.heap.size w w' := by
  have N1 := hI.n1
  have N2 := hI.n2
  have HC := Lib.hid (cut_any c no A1 A2 c1 c2 w N1 N2)
  have HT := Lib.hid (hI.cut 70 70)
  clear hI
  go_enter Try.func3, Try.ntmps3
  go_wp2_with fail
  (with_reducible refine HC.out.mono ?_); rintro e v1 ⟨rfl, hb1⟩
  generalize c.take 70 = cc at HT ⊢
  generalize no.take 70 = nn at HT ⊢
  have HT1 := Lib.hid (HT.out.below hb1)
  have HTM := Lib.hid (tame9 cc nn A1 A2 c1 c2 v1 HT1.out)
  clear HC HT N1 N2
  go_wp2_with fail
  (with_reducible refine HTM.out.mono ?_); rintro e v2 ⟨d, q, D, Q, dd, qq, rfl, _, _, HD, hb2⟩
  have HT2 := Lib.hid (HT1.out.below hb2)
  replace HD := Lib.hid HD
  have bl2 := Lib.hid (bl_step hb1 hb2)
  clear HTM HT1 hb1 hb2
  go_wp2_with fail
  go_loopw [0, 1, 27] (fun va vb vi wr => ∃ (i : Int), vi = .int .i64 i ∧ ((i = 0 ∧ va = .slice A1 cc.length c1 ∧ vb = .slice A2 nn.length c2) ∨ (i = 1 ∧ va = .slice A1 cc.length c1 ∧ vb = .slice A2 nn.length c2) ∨ i = 2) ∧ Hid (Below w.heap.size w wr) ∧ Hid (TabAt wr w.heap.size cc nn A1 c1 A2 c2) ∧ Hid (TabAt wr v2.heap.size d q D dd Q qq)) (fun _ _ vi _ => 2 - (intOf vi).toNat)
  case atStart => exact ⟨0, rfl, .inl ⟨rfl, rfl, rfl⟩, bl2, HT2, HD⟩
  case round =>
    clear bl2 HT2 HD
    obtain ⟨i, rfl, hi, HW, HT, HD⟩ := hrel
    rcases hi with ⟨rfl, rfl, rfl⟩ | ⟨rfl, rfl, rfl⟩ | rfl
    · have nb : Below wr.heap.size wr (wr.alloc (.cells #[.slice A1 cc.length c1, .slice A2 nn.length c2] 28)) := bl_alloc (Below.refl _ _) _
      have BT : Blk (wr.alloc (.cells #[.slice A1 cc.length c1, .slice A2 nn.length c2] 28)) wr.heap.size 28 #[.slice A1 cc.length c1, .slice A2 nn.length c2] := Blk.new _ _ _
      have HP := Lib.hid (pprices_any cc nn A1 A2 c1 c2 _ (HT.out.below nb))
      go_wp2_with fail
      (with_reducible refine HP.out.mono ?_); rintro e u1 ⟨hp, hb1⟩
      have b1 := bl_step nb hb1
      have HR := Lib.hid (rprices_any cc nn A1 A2 c1 c2 u1 (HT.out.below b1))
      have BT1 := BT.below hb1
      clear HP BT nb
      rcases hp with ⟨hg, U, u, V, v, rfl, hU, hV⟩ | ⟨hn, rfl⟩
      · have HG := Lib.hid hg
        have HU := Lib.hid hU
        have HV := Lib.hid hV
        clear hg hU hV
        go_wp2_with fail
        (with_reducible refine HR.out.mono ?_); rintro e u2 ⟨hp2, hb2⟩
        have b2 := bl_step b1 hb2
        rcases hp2 with ⟨hg2, U2, u2', V2, v2', rfl, hU2, hV2⟩ | ⟨hn2, rfl⟩
        · clear HR hg2
          have HW2 := Lib.hid (bl_step HW.out b2)
          have HK1 := Lib.hid (fun w' (hb : Below wr.heap.size wr w') => chk_any cc nn A1 A2 c1 c2 w' (HT.out.below hb))
          have HK2 := Lib.hid (fun w' (hb : Below wr.heap.size wr w') => rchk_any cc nn A1 A2 c1 c2 w' (HT.out.below hb))
          generalize chkB cc nn = z at HK1 HK2
          have BT2 := BT1.below hb2
          have t_z : wr.heap.size < u2.heap.size := BT2.lt
          have t_c0 : u2.cell? ⟨wr.heap.size, 0, none⟩ = some (.slice A1 cc.length c1) := (BT2.cell 0).trans rfl
          have t_f0 := BT2.frozen 0
          have t_c1 : u2.cell? ⟨wr.heap.size, 1, none⟩ = some (.slice A2 nn.length c2) := (BT2.cell 1).trans rfl
          have t_f1 := BT2.frozen 1
          go_wp2_with fail
          (with_reducible refine (HK1.out _ b2).mono ?_); rintro e u3 ⟨rfl, hb3⟩
          have b3 := bl_step b2 hb3
          clear t_z t_c0 t_f0 t_c1 t_f1
          go_wp2_with fail
          (with_reducible refine (HK2.out _ b3).mono ?_); rintro e u4 ⟨rfl, hb4⟩
          have b4 := bl_step b3 hb4
          have HE1 := Lib.hid (equal_same (rowN cc nn) U U2 u u2' cc.length u4 (own_below (own_below (own_below HU.out hb2) hb3) hb4) (own_below (own_below hU2 hb3) hb4))
          have HE2 := Lib.hid (fun w' (hb : Below u4.heap.size u4 w') => equal_same (colN cc nn) V V2 v v2' cc.length w' (own_below (own_below (own_below (own_below HV.out hb2) hb3) hb4) hb) (own_below (own_below (own_below hV2 hb3) hb4) hb))
          go_wp2_with fail
          (with_reducible refine HE1.out.mono ?_); rintro e u5 ⟨rfl, hb5⟩
          have b5 := bl_step b4 hb5
          go_wp2_with fail
          (with_reducible refine (HE2.out _ hb5).mono ?_); rintro e u6 ⟨rfl, hb6⟩
          have b6 := bl_step b5 hb6
          go_wp2_with fail
          go_roundw
          case rel => exact ⟨1, rfl, .inr (.inl ⟨rfl, rfl, rfl⟩), Lib.hid (bl_step HW.out b6), Lib.hid (HT.out.below b6), Lib.hid (HD.out.below b6)⟩
          case measure => simp [intOf]
        · exact absurd HG.out hn2
      · have HG := Lib.hid hn
        clear hn
        go_wp2_with fail
        (with_reducible refine HR.out.mono ?_); rintro e u2 ⟨hp2, hb2⟩
        have b2 := bl_step b1 hb2
        rcases hp2 with ⟨hg2, U2, u2', V2, v2', rfl, hU2, hV2⟩ | ⟨hn2, rfl⟩
        · exact absurd hg2 HG.out
        · clear HR hn2
          have HW2 := Lib.hid (bl_step HW.out b2)
          have HK1 := Lib.hid (fun w' (hb : Below wr.heap.size wr w') => chk_any cc nn A1 A2 c1 c2 w' (HT.out.below hb))
          have HK2 := Lib.hid (fun w' (hb : Below wr.heap.size wr w') => rchk_any cc nn A1 A2 c1 c2 w' (HT.out.below hb))
          generalize chkB cc nn = z at HK1 HK2
          have BT2 := BT1.below hb2
          have t_z : wr.heap.size < u2.heap.size := BT2.lt
          have t_c0 : u2.cell? ⟨wr.heap.size, 0, none⟩ = some (.slice A1 cc.length c1) := (BT2.cell 0).trans rfl
          have t_f0 := BT2.frozen 0
          have t_c1 : u2.cell? ⟨wr.heap.size, 1, none⟩ = some (.slice A2 nn.length c2) := (BT2.cell 1).trans rfl
          have t_f1 := BT2.frozen 1
          go_wp2_with fail
          (with_reducible refine (HK1.out _ b2).mono ?_); rintro e u3 ⟨rfl, hb3⟩
          have b3 := bl_step b2 hb3
          clear t_z t_c0 t_f0 t_c1 t_f1
          go_wp2_with fail
          (with_reducible refine (HK2.out _ b3).mono ?_); rintro e u4 ⟨rfl, hb4⟩
          have b4 := bl_step b3 hb4
          have HE1 := Lib.hid (equal_nil u4)
          have HE2 := Lib.hid (fun w' (hb : Below u4.heap.size u4 w') => equal_nil w')
          go_wp2_with fail
          (with_reducible refine HE1.out.mono ?_); rintro e u5 ⟨rfl, hb5⟩
          have b5 := bl_step b4 hb5
          go_wp2_with fail
          (with_reducible refine (HE2.out _ hb5).mono ?_); rintro e u6 ⟨rfl, hb6⟩
          have b6 := bl_step b5 hb6
          go_wp2_with fail
          go_roundw
          case rel => exact ⟨1, rfl, .inr (.inl ⟨rfl, rfl, rfl⟩), Lib.hid (bl_step HW.out b6), Lib.hid (HT.out.below b6), Lib.hid (HD.out.below b6)⟩
          case measure => simp [intOf]
    · have nb : Below wr.heap.size wr (wr.alloc (.cells #[.slice D d.length dd, .slice Q q.length qq] 28)) := bl_alloc (Below.refl _ _) _
      have BT : Blk (wr.alloc (.cells #[.slice D d.length dd, .slice Q q.length qq] 28)) wr.heap.size 28 #[.slice D d.length dd, .slice Q q.length qq] := Blk.new _ _ _
      have HP := Lib.hid (pprices_any d q D Q dd qq _ (HD.out.below nb))
      go_wp2_with fail
      (with_reducible refine HP.out.mono ?_); rintro e u1 ⟨hp, hb1⟩
      have b1 := bl_step nb hb1
      have HR := Lib.hid (rprices_any d q D Q dd qq u1 (HD.out.below b1))
      have BT1 := BT.below hb1
      clear HP BT nb
      rcases hp with ⟨hg, U, u, V, v, rfl, hU, hV⟩ | ⟨hn, rfl⟩
      · have HG := Lib.hid hg
        have HU := Lib.hid hU
        have HV := Lib.hid hV
        clear hg hU hV
        go_wp2_with fail
        (with_reducible refine HR.out.mono ?_); rintro e u2 ⟨hp2, hb2⟩
        have b2 := bl_step b1 hb2
        rcases hp2 with ⟨hg2, U2, u2', V2, v2', rfl, hU2, hV2⟩ | ⟨hn2, rfl⟩
        · clear HR hg2
          have HW2 := Lib.hid (bl_step HW.out b2)
          have HK1 := Lib.hid (fun w' (hb : Below wr.heap.size wr w') => chk_any d q D Q dd qq w' (HD.out.below hb))
          have HK2 := Lib.hid (fun w' (hb : Below wr.heap.size wr w') => rchk_any d q D Q dd qq w' (HD.out.below hb))
          generalize chkB d q = z at HK1 HK2
          have BT2 := BT1.below hb2
          have t_z : wr.heap.size < u2.heap.size := BT2.lt
          have t_c0 : u2.cell? ⟨wr.heap.size, 0, none⟩ = some (.slice D d.length dd) := (BT2.cell 0).trans rfl
          have t_f0 := BT2.frozen 0
          have t_c1 : u2.cell? ⟨wr.heap.size, 1, none⟩ = some (.slice Q q.length qq) := (BT2.cell 1).trans rfl
          have t_f1 := BT2.frozen 1
          go_wp2_with fail
          (with_reducible refine (HK1.out _ b2).mono ?_); rintro e u3 ⟨rfl, hb3⟩
          have b3 := bl_step b2 hb3
          clear t_z t_c0 t_f0 t_c1 t_f1
          go_wp2_with fail
          (with_reducible refine (HK2.out _ b3).mono ?_); rintro e u4 ⟨rfl, hb4⟩
          have b4 := bl_step b3 hb4
          have HE1 := Lib.hid (equal_same (rowN d q) U U2 u u2' d.length u4 (own_below (own_below (own_below HU.out hb2) hb3) hb4) (own_below (own_below hU2 hb3) hb4))
          have HE2 := Lib.hid (fun w' (hb : Below u4.heap.size u4 w') => equal_same (colN d q) V V2 v v2' d.length w' (own_below (own_below (own_below (own_below HV.out hb2) hb3) hb4) hb) (own_below (own_below (own_below hV2 hb3) hb4) hb))
          go_wp2_with fail
          (with_reducible refine HE1.out.mono ?_); rintro e u5 ⟨rfl, hb5⟩
          have b5 := bl_step b4 hb5
          go_wp2_with fail
          (with_reducible refine (HE2.out _ hb5).mono ?_); rintro e u6 ⟨rfl, hb6⟩
          have b6 := bl_step b5 hb6
          go_wp2_with fail
          go_roundw
          case rel => exact ⟨2, rfl, .inr (.inr rfl), Lib.hid (bl_step HW.out b6), Lib.hid (HT.out.below b6), Lib.hid (HD.out.below b6)⟩
          case measure => simp [intOf]
        · exact absurd HG.out hn2
      · have HG := Lib.hid hn
        clear hn
        go_wp2_with fail
        (with_reducible refine HR.out.mono ?_); rintro e u2 ⟨hp2, hb2⟩
        have b2 := bl_step b1 hb2
        rcases hp2 with ⟨hg2, U2, u2', V2, v2', rfl, hU2, hV2⟩ | ⟨hn2, rfl⟩
        · exact absurd hg2 HG.out
        · clear HR hn2
          have HW2 := Lib.hid (bl_step HW.out b2)
          have HK1 := Lib.hid (fun w' (hb : Below wr.heap.size wr w') => chk_any d q D Q dd qq w' (HD.out.below hb))
          have HK2 := Lib.hid (fun w' (hb : Below wr.heap.size wr w') => rchk_any d q D Q dd qq w' (HD.out.below hb))
          generalize chkB d q = z at HK1 HK2
          have BT2 := BT1.below hb2
          have t_z : wr.heap.size < u2.heap.size := BT2.lt
          have t_c0 : u2.cell? ⟨wr.heap.size, 0, none⟩ = some (.slice D d.length dd) := (BT2.cell 0).trans rfl
          have t_f0 := BT2.frozen 0
          have t_c1 : u2.cell? ⟨wr.heap.size, 1, none⟩ = some (.slice Q q.length qq) := (BT2.cell 1).trans rfl
          have t_f1 := BT2.frozen 1
          go_wp2_with fail
          (with_reducible refine (HK1.out _ b2).mono ?_); rintro e u3 ⟨rfl, hb3⟩
          have b3 := bl_step b2 hb3
          clear t_z t_c0 t_f0 t_c1 t_f1
          go_wp2_with fail
          (with_reducible refine (HK2.out _ b3).mono ?_); rintro e u4 ⟨rfl, hb4⟩
          have b4 := bl_step b3 hb4
          have HE1 := Lib.hid (equal_nil u4)
          have HE2 := Lib.hid (fun w' (hb : Below u4.heap.size u4 w') => equal_nil w')
          go_wp2_with fail
          (with_reducible refine HE1.out.mono ?_); rintro e u5 ⟨rfl, hb5⟩
          have b5 := bl_step b4 hb5
          go_wp2_with fail
          (with_reducible refine (HE2.out _ hb5).mono ?_); rintro e u6 ⟨rfl, hb6⟩
          have b6 := bl_step b5 hb6
          go_wp2_with fail
          go_roundw
          case rel => exact ⟨2, rfl, .inr (.inr rfl), Lib.hid (bl_step HW.out b6), Lib.hid (HT.out.below b6), Lib.hid (HD.out.below b6)⟩
          case measure => simp [intOf]
    · go_wp2_with fail
      (with_reducible refine (wakes_any _).mono ?_); rintro e v3 ⟨rfl, hb3⟩
      go_wp2
      go_ret
      exact ⟨rfl, bl_step HW.out hb3⟩
end Go.Proofs.Ytamfhommmogknaa
