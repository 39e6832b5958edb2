/- The walk of RatioSigns: the signs of every ratio, and the ratio of every signs, are the document's, or its error. -/
import Derived.Test.YtkdklmkcanjjfaaDoorRatG
import Derived.Test.YtkdklmkcanjjfaaDoorRatY
namespace Go.Proofs.YtkdklmkcanjjfaaDoor
open Go.RowKit
set_option linter.unusedVariables false
set_option linter.unusedSimpArgs false
set_option maxRecDepth 100000

set_option maxHeartbeats 6400000 in
theorem RatioSigns_walk (x0 x1 : Int) (s : ByteArray) (w : World) (hw : RatW w) (i0 : InI x0) (i1 : InI x1) (hs : s.size ≤ 140737488355328) :
    Calls Tryd.prog 4 #[.agg #[.int .i64 x0, .int .i64 x1], .string s] w fun e w' => e = .returned (.bool true) ∧ Below w.heap.size w w' := by
  have HX := Lib.hid (fun w => some_any x0 x1 w i0 i1)
  have HW := Lib.hid (fun w' (hb : Below w.heap.size w w') => wakes2_any w' (hw.below hb))
  have HP := fun w' (hb : Below w.heap.size w w') => parse_any s w' hs (hw.below hb)
  have HQ := fun w' => bparse_any s w' hs
  have HL := Lib.hid (rsOf_len x0 x1)
  have HI := Lib.hid (rsOf_in i0 i1)
  have HR := Lib.hid hw
  generalize rsOf x0 x1 = rs at HX HL HI
  generalize (sigR s.data.toList).1 = n at HP HQ
  generalize (sigR s.data.toList).2.1 = d at HP HQ
  generalize (sigR s.data.toList).2.2 = z at HP HQ
  replace HP := Lib.hid HP
  replace HQ := Lib.hid HQ
  clear hw
  go_enter Tryd.func4, Tryd.ntmps4
  go_wp2_with fail
  (with_reducible refine (HX.out _).mono ?_); rintro e v1 ⟨u1, rfl, hown1, hb1⟩; obtain ⟨g1, c1, rfl, hn1, hc1, hg1, hlo1, hr1⟩ := own_pairs hown1 HL.out.1
  have st1 := bl_step (bl_alloc (Below.refl _ _) _) hb1
  have bl1 := st1
  have Bx_1 : Blk v1 (w.heap.size) 31 #[.int .i64 x0, .int .i64 x1] := (Blk.new _ _ _).below hb1
  have x_1_z : w.heap.size < v1.heap.size := Bx_1.lt
  have x_1_c0 : v1.cell? ⟨w.heap.size, 0, none⟩ = some (.int .i64 x0) := (Bx_1.cell 0).trans rfl
  have x_1_f0 := Bx_1.frozen 0
  have x_1_c1 : v1.cell? ⟨w.heap.size, 1, none⟩ = some (.int .i64 x1) := (Bx_1.cell 1).trans rfl
  have x_1_f1 := Bx_1.frozen 1
  have HR1 := Lib.hid hr1
  clear hr1 x_1_z x_1_c0 x_1_f0 x_1_c1 x_1_f1
  have hl2 := HL.out.2
  go_wp2_with fail
  go_loopw [18] (fun vi wr => ∃ i : Nat, vi = .int .i64 i ∧ i ≤ rs.length ∧ Below v1.heap.size v1 wr) (fun vi _ => rs.length - (intOf vi).toNat)
  case atStart => exact ⟨0, rfl, Nat.zero_le _, Below.refl _ _⟩
  case round =>
    obtain ⟨i, rfl, hi, be⟩ := hrel
    generalize wr = wo at be ⊢
    have blo := bl_step bl1 be
    by_cases hlt : i < rs.length
    · obtain ⟨⟨a, b⟩, hp⟩ : ∃ p, rs[i]? = some p := ⟨_, List.getElem?_eq_getElem hlt⟩
      have hin := HI.out _ (List.mem_of_getElem? hp)
      have cA : wo.cell? ⟨g1, i * 2, none⟩ = some (.int .i64 a) := (be.cell hg1).trans (HR1.out i _ hp).1
      have cB : wo.cell? ⟨g1, i * 2 + 1, none⟩ = some (.int .i64 b) := (be.cell hg1).trans (HR1.out i _ hp).2
      have HT1 := fun w => btext_any a b w hin.1 hin.2
      have HT2 := fun w' (hb : Below w.heap.size w w') => text_any a b w' hin.1 hin.2 (HR.out.below hb)
      have hsz : (⟨(textR a b).toArray⟩ : ByteArray).size ≤ 140737488355328 := by
        have h1 := Lib.itoa_length_le a hin.1.1 hin.1.2
        have h2 := Lib.itoa_length_le b hin.2.1 hin.2.2
        show (textR a b).toArray.size ≤ _
        unfold textR
        split
        · split <;> simp <;> omega
        · simp
      have HT3 := fun w' (hb : Below w.heap.size w w') => parse_any ⟨(textR a b).toArray⟩ w' hsz (HR.out.below hb)
      rw [show (⟨(textR a b).toArray⟩ : ByteArray).data.toList = textR a b by simp] at HT3
      cases hg : goodB a b
      · have e1 : textR a b = [] := by unfold textR; rw [hg]; rfl
        have e2 : sigR [] = (0, 0, 4) := sig_no fun n d _ _ h1 h2 => text_some h1 h2
        rw [e1] at HT1 HT2
        rw [e1, e2] at HT3
        replace HT1 := Lib.hid HT1
        replace HT2 := Lib.hid HT2
        replace HT3 := Lib.hid HT3
        clear e1 e2 hg hp hin hsz
        have bl50 : Below w.heap.size w wo := blo
        go_wp2_with fail
        (with_reducible refine (HT1.out _).mono ?_); rintro e r51 ⟨rfl, hb51⟩
        have st51 := bl_step (bl_alloc (Below.refl _ _) _) hb51
        have bl51 := bl_step bl50 st51
        have Ba_51 : Blk r51 (wo.heap.size) 23 #[.int .i64 a, .int .i64 b] := (Blk.new _ _ _).below hb51
        have a_51_z : wo.heap.size < r51.heap.size := Ba_51.lt
        have a_51_c0 : r51.cell? ⟨wo.heap.size, 0, none⟩ = some (.int .i64 a) := (Ba_51.cell 0).trans rfl
        have a_51_f0 := Ba_51.frozen 0
        have a_51_c1 : r51.cell? ⟨wo.heap.size, 1, none⟩ = some (.int .i64 b) := (Ba_51.cell 1).trans rfl
        have a_51_f1 := Ba_51.frozen 1
        go_wp2_with fail
        (with_reducible refine (HT2.out _ bl51).mono ?_); rintro e r52 ⟨rfl, hb52⟩
        have st52 := bl_step (Below.refl _ _) hb52
        have bl52 := bl_step bl51 st52
        clear a_51_z a_51_c0 a_51_f0 a_51_c1 a_51_f1
        have Ba_52 := Ba_51.below st52
        have a_52_z : wo.heap.size < r52.heap.size := Ba_52.lt
        have a_52_c0 : r52.cell? ⟨wo.heap.size, 0, none⟩ = some (.int .i64 a) := (Ba_52.cell 0).trans rfl
        have a_52_f0 := Ba_52.frozen 0
        have a_52_c1 : r52.cell? ⟨wo.heap.size, 1, none⟩ = some (.int .i64 b) := (Ba_52.cell 1).trans rfl
        have a_52_f1 := Ba_52.frozen 1
        go_wp2_with fail
        (with_reducible refine (HT3.out _ bl52).mono ?_); rintro e r53 ⟨rfl, hb53⟩
        have st53 := bl_step (Below.refl _ _) hb53
        have bl53 := bl_step bl52 st53
        clear a_52_z a_52_c0 a_52_f0 a_52_c1 a_52_f1
        have Ba_53 := Ba_52.below st53
        have a_53_z : wo.heap.size < r53.heap.size := Ba_53.lt
        have a_53_c0 : r53.cell? ⟨wo.heap.size, 0, none⟩ = some (.int .i64 a) := (Ba_53.cell 0).trans rfl
        have a_53_f0 := Ba_53.frozen 0
        have a_53_c1 : r53.cell? ⟨wo.heap.size, 1, none⟩ = some (.int .i64 b) := (Ba_53.cell 1).trans rfl
        have a_53_f1 := Ba_53.frozen 1
        go_wp2_with fail
        go_roundw
        case rel => exact ⟨i + 1, by go_num, by omega, bl_step be (bl_alloc (bl_step (bl_step (bl_step (bl_alloc (Below.refl _ _) _) hb51) hb52) hb53) _)⟩
        case measure => simp only [intOf]; omega
      · have e2 := sig_yes hin.1 hin.2 hg
        have hne := text_some hg
        rw [e2] at HT3
        generalize textR a b = x at HT1 HT2 HT3 hne
        have hn1 : x.isEmpty = false := by cases x; exact absurd rfl hne; rfl
        have HNE := Lib.hid hne
        replace HT1 := Lib.hid HT1
        replace HT2 := Lib.hid HT2
        replace HT3 := Lib.hid HT3
        clear e2 hg hp hin hsz
        have bl50 : Below w.heap.size w wo := blo
        go_wp2_with fail
        (with_reducible refine (HT1.out _).mono ?_); rintro e r51 ⟨rfl, hb51⟩
        have st51 := bl_step (bl_alloc (Below.refl _ _) _) hb51
        have bl51 := bl_step bl50 st51
        have Ba_51 : Blk r51 (wo.heap.size) 23 #[.int .i64 a, .int .i64 b] := (Blk.new _ _ _).below hb51
        have a_51_z : wo.heap.size < r51.heap.size := Ba_51.lt
        have a_51_c0 : r51.cell? ⟨wo.heap.size, 0, none⟩ = some (.int .i64 a) := (Ba_51.cell 0).trans rfl
        have a_51_f0 := Ba_51.frozen 0
        have a_51_c1 : r51.cell? ⟨wo.heap.size, 1, none⟩ = some (.int .i64 b) := (Ba_51.cell 1).trans rfl
        have a_51_f1 := Ba_51.frozen 1
        go_wp2_with fail
        (with_reducible refine (HT2.out _ bl51).mono ?_); rintro e r52 ⟨rfl, hb52⟩
        have st52 := bl_step (Below.refl _ _) hb52
        have bl52 := bl_step bl51 st52
        clear a_51_z a_51_c0 a_51_f0 a_51_c1 a_51_f1
        have Ba_52 := Ba_51.below st52
        have a_52_z : wo.heap.size < r52.heap.size := Ba_52.lt
        have a_52_c0 : r52.cell? ⟨wo.heap.size, 0, none⟩ = some (.int .i64 a) := (Ba_52.cell 0).trans rfl
        have a_52_f0 := Ba_52.frozen 0
        have a_52_c1 : r52.cell? ⟨wo.heap.size, 1, none⟩ = some (.int .i64 b) := (Ba_52.cell 1).trans rfl
        have a_52_f1 := Ba_52.frozen 1
        go_wp2_with fail
        (with_reducible refine (HT3.out _ bl52).mono ?_); rintro e r53 ⟨rfl, hb53⟩
        have st53 := bl_step (Below.refl _ _) hb53
        have bl53 := bl_step bl52 st53
        clear a_52_z a_52_c0 a_52_f0 a_52_c1 a_52_f1
        have Ba_53 := Ba_52.below st53
        have a_53_z : wo.heap.size < r53.heap.size := Ba_53.lt
        have a_53_c0 : r53.cell? ⟨wo.heap.size, 0, none⟩ = some (.int .i64 a) := (Ba_53.cell 0).trans rfl
        have a_53_f0 := Ba_53.frozen 0
        have a_53_c1 : r53.cell? ⟨wo.heap.size, 1, none⟩ = some (.int .i64 b) := (Ba_53.cell 1).trans rfl
        have a_53_f1 := Ba_53.frozen 1
        go_wp2_with fail
        go_roundw
        case rel => exact ⟨i + 1, by go_num, by omega, bl_step be (bl_alloc (bl_step (bl_step (bl_step (bl_alloc (Below.refl _ _) _) hb51) hb52) hb53) _)⟩
        case measure => simp only [intOf]; omega
    · go_wp2_with fail
      (with_reducible refine (HP.out _ blo).mono ?_); rintro e q1 ⟨rfl, hq1⟩
      have bl1 : Below w.heap.size w q1 := bl_step blo hq1
      go_wp2_with fail
      (with_reducible refine (HQ.out _).mono ?_); rintro e q2 ⟨rfl, hb2⟩
      have st2 := bl_step (bl_alloc (Below.refl _ _) _) hb2
      have bl2 := bl_step bl1 st2
      have Br_2 : Blk q2 (q1.heap.size) 23 #[.int .i64 n, .int .i64 d] := (Blk.new _ _ _).below hb2
      have r_2_z : q1.heap.size < q2.heap.size := Br_2.lt
      have r_2_c0 : q2.cell? ⟨q1.heap.size, 0, none⟩ = some (.int .i64 n) := (Br_2.cell 0).trans rfl
      have r_2_f0 := Br_2.frozen 0
      have r_2_c1 : q2.cell? ⟨q1.heap.size, 1, none⟩ = some (.int .i64 d) := (Br_2.cell 1).trans rfl
      have r_2_f1 := Br_2.frozen 1
      go_wp2_with fail
      (with_reducible refine (HW.out _ bl2).mono ?_); rintro e q3 ⟨rfl, hb3⟩
      have st3 := bl_step (Below.refl _ _) hb3
      have bl3 := bl_step bl2 st3
      clear r_2_z r_2_c0 r_2_f0 r_2_c1 r_2_f1
      have Br_3 := Br_2.below st3
      have r_3_z : q1.heap.size < q3.heap.size := Br_3.lt
      have r_3_c0 : q3.cell? ⟨q1.heap.size, 0, none⟩ = some (.int .i64 n) := (Br_3.cell 0).trans rfl
      have r_3_f0 := Br_3.frozen 0
      have r_3_c1 : q3.cell? ⟨q1.heap.size, 1, none⟩ = some (.int .i64 d) := (Br_3.cell 1).trans rfl
      have r_3_f1 := Br_3.frozen 1
      go_wp2
      go_ret
      exact ⟨rfl, bl3⟩
end Go.Proofs.YtkdklmkcanjjfaaDoor
