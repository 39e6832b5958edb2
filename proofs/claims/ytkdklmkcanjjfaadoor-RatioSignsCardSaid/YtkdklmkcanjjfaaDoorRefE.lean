/- The walks of the reference for layer 1, part E: Add. -/
import Derived.Test.YtkdklmkcanjjfaaDoorRefD
namespace Go.Proofs.YtkdklmkcanjjfaaDoor
open Go.RowKit
set_option linter.unusedVariables false
set_option linter.unusedSimpArgs false
set_option maxRecDepth 100000

theorem add_same_end (n : Bool) (z1 z2 : Int) (ds1 ds2 ds : List Nat) (N1 : n = decide (z1 < 0)) (N2 : n = decide (z2 < 0)) (E1 : dval ds1 = z1.natAbs) (E2 : dval ds2 = z2.natAbs) (e : dval ds = dval ds1 + dval ds2) : sval n ds = z1 + z2 := by
  unfold sval
  rw [e, E1, E2]
  cases n with
  | true => have := of_decide_eq_true N1.symm; have := of_decide_eq_true N2.symm; simp; omega
  | false => have := of_decide_eq_false N1.symm; have := of_decide_eq_false N2.symm; simp; omega

theorem add_far_end (n1 n2 : Bool) (z1 z2 : Int) (ds1 ds2 ds : List Nat) (hn : n1 ≠ n2) (hle : dval ds2 ≤ dval ds1) (N1 : n1 = decide (z1 < 0)) (N2 : n2 = decide (z2 < 0)) (E1 : dval ds1 = z1.natAbs) (E2 : dval ds2 = z2.natAbs) (e : dval ds = dval ds1 - dval ds2) : sval n1 ds = z1 + z2 := by
  unfold sval
  rw [e]
  cases n1 with
  | true =>
    have p := of_decide_eq_true N1.symm
    cases n2 with
    | true => exact absurd rfl hn
    | false => have := of_decide_eq_false N2.symm; simp; omega
  | false =>
    have p := of_decide_eq_false N1.symm
    cases n2 with
    | true => have := of_decide_eq_true N2.symm; simp; omega
    | false => exact absurd rfl hn

set_option maxHeartbeats 3200000 in
theorem Add_same (n : Bool) (A1 A2 : Option Addr) (m1 m2 c1 c2 : Nat) (z1 z2 : Int) (w : World) (h1 : BigV w n A1 m1 c1 z1) (h2 : BigV w n A2 m2 c2 z2) (s1 : Sm z1) (s2 : Sm z2) :
    Calls Tryd.prog 59 #[.agg #[.bool n, .slice A1 m1 c1], .agg #[.bool n, .slice A2 m2 c2]] w (RetBig (z1 + z2) w) := by
  obtain ⟨ds1, D1, L1, N1, E1⟩ := h1.out
  obtain ⟨ds2, D2, L2, N2, E2⟩ := h2.out
  obtain rfl := D1.len
  obtain rfl := D2.len
  have l1 := s1.len L1 E1
  have l2 := s2.len L2 E2
  have x1 := D1.cap
  have x2 := D2.cap
  have y1 := D1.capm
  have y2 := D2.capm
  have HE : Hid (∀ ds, dval ds = dval ds1 + dval ds2 → sval n ds = z1 + z2) := Lib.hid (fun ds e => add_same_end n z1 z2 ds1 ds2 ds N1 N2 E1 E2 e)
  clear N1 N2 E1 E2 s1 s2 h1 h2 L1 L2
  go_enter Tryd.func59, Tryd.ntmps59
  go_wp2_with fail
  go_loopw [10, 11, 12] (fun vd vc vi wr => ∃ (k c : Nat) (ds : List Nat), vi = .int .i64 k ∧ vc = .int .u64 c ∧ AddIn ds1 ds2 ds k c ∧ wr.ownsRow (((w.alloc (.cells #[.bool n, .slice A1 ds1.length c1] 59)).alloc (.cells #[.bool n, .slice A2 ds2.length c2] 59)).alloc (.cells #[.bool false, .slice none 0 0] 59)).heap.size 82 1 vd k (dvs ds) ∧ Below (((w.alloc (.cells #[.bool n, .slice A1 ds1.length c1] 59)).alloc (.cells #[.bool n, .slice A2 ds2.length c2] 59)).alloc (.cells #[.bool false, .slice none 0 0] 59)).heap.size (((w.alloc (.cells #[.bool n, .slice A1 ds1.length c1] 59)).alloc (.cells #[.bool n, .slice A2 ds2.length c2] 59)).alloc (.cells #[.bool false, .slice none 0 0] 59)) wr) (fun _ _ vi _ => ds1.length + ds2.length + 1 - (intOf vi).toNat)
  case atStart => exact ⟨0, 0, [], rfl, rfl, .start _ _, own_nil _ _ _ _, Below.refl _ _⟩
  case round =>
    obtain ⟨k, c, ds, rfl, rfl, hI, hown, be⟩ := hrel
    obtain ⟨hcw, hfw⟩ := bcell be
    have hB1 : Below w.heap.size w wr := bl_step (bl_alloc (bl_alloc (bl_alloc (Below.refl _ _) _) _) _) be
    have hc1 : (c : Int) ≤ 1 := by have := hI.c1; omega
    have hkl := hI.le
    by_cases hk1 : k < ds1.length
    · by_cases hk2 : k < ds2.length
      · obtain ⟨ad1, rfl, g1⟩ := (D1.below hB1).rd.at_ k (by rw [dvs_length]; exact hk1)
        rw [dvs_get ds1 k hk1, ← getD_in ds1 k 0 hk1] at g1
        obtain ⟨ad2, rfl, g2⟩ := (D2.below hB1).rd.at_ k (by rw [dvs_length]; exact hk2)
        rw [dvs_get ds2 k hk2, ← getD_in ds2 k 0 hk2] at g2
        have hst := hI.step D1.digs D2.digs (by omega)
        have b1 := digs_getD D1.digs k
        generalize ds1.getD k 0 = d1 at g1 hst b1
        have b1' : (d1 : Int) ≤ 65535 := by omega
        have b2 := digs_getD D2.digs k
        generalize ds2.getD k 0 = d2 at g2 hst b2
        have b2' : (d2 : Int) ≤ 65535 := by omega
        have e1 : (((c + d1 + d2) % 65536 : Nat) : Int) = ((c : Int) + d1 + d2) % 65536 := by omega
        have e2 : (((c + d1 + d2) / 65536 : Nat) : Int) = ((c : Int) + d1 + d2) / 65536 := by omega
        have E1 := Lib.hid e1
        have E2 := Lib.hid e2
        have HS := Lib.hid hst
        have HI := Lib.hid hI
        clear e1 e2 hst hI
        go_wp2_with (at_builtin; refine app1 rfl (.tmp 113) (.tmp 116) 57 82 (.int .u64 0) 8 rfl Tryd.underlying57 info_u64 rfl (by omega) _ (dvs ds) _ rfl rfl (by rfl) (by rw [dvs_length, HI.out.len]; exact hown) be (by rw [dvs_length, HI.out.len]; omega) ?_; intro v1 w1 hown1 hb1 _ _)
        go_roundw
        case rel =>
          refine ⟨k + 1, _, _, by go_num, ?_, HS.out, ?_, hb1⟩
          · first | exact congrArg (Value.int .u64) E2.out.symm | (rw [E2.out])
          · rw [dvs_snoc, E1.out]; rw [dvs_length, HI.out.len] at hown1; exact hown1
        case measure => simp only [intOf]; omega
      · obtain ⟨ad1, rfl, g1⟩ := (D1.below hB1).rd.at_ k (by rw [dvs_length]; exact hk1)
        rw [dvs_get ds1 k hk1, ← getD_in ds1 k 0 hk1] at g1
        have o2 : ds2.getD k 0 = 0 := getD_out _ _ _ (by omega)
        have hst := hI.step D1.digs D2.digs (by omega)
        rw [o2] at hst
        have b1 := digs_getD D1.digs k
        generalize ds1.getD k 0 = d1 at g1 hst b1
        have b1' : (d1 : Int) ≤ 65535 := by omega
        have e1 : (((c + d1 + 0) % 65536 : Nat) : Int) = ((c : Int) + d1) % 65536 := by omega
        have e2 : (((c + d1 + 0) / 65536 : Nat) : Int) = ((c : Int) + d1) / 65536 := by omega
        have E1 := Lib.hid e1
        have E2 := Lib.hid e2
        have HS := Lib.hid hst
        have HI := Lib.hid hI
        clear e1 e2 hst hI o2
        go_wp2_with (at_builtin; refine app1 rfl (.tmp 113) (.tmp 116) 57 82 (.int .u64 0) 8 rfl Tryd.underlying57 info_u64 rfl (by omega) _ (dvs ds) _ rfl rfl (by rfl) (by rw [dvs_length, HI.out.len]; exact hown) be (by rw [dvs_length, HI.out.len]; omega) ?_; intro v1 w1 hown1 hb1 _ _)
        go_roundw
        case rel =>
          refine ⟨k + 1, _, _, by go_num, ?_, HS.out, ?_, hb1⟩
          · first | exact congrArg (Value.int .u64) E2.out.symm | (rw [E2.out])
          · rw [dvs_snoc, E1.out]; rw [dvs_length, HI.out.len] at hown1; exact hown1
        case measure => simp only [intOf]; omega
    · by_cases hk2 : k < ds2.length
      · have o1 : ds1.getD k 0 = 0 := getD_out _ _ _ (by omega)
        obtain ⟨ad2, rfl, g2⟩ := (D2.below hB1).rd.at_ k (by rw [dvs_length]; exact hk2)
        rw [dvs_get ds2 k hk2, ← getD_in ds2 k 0 hk2] at g2
        have hst := hI.step D1.digs D2.digs (by omega)
        rw [o1] at hst
        have b2 := digs_getD D2.digs k
        generalize ds2.getD k 0 = d2 at g2 hst b2
        have b2' : (d2 : Int) ≤ 65535 := by omega
        have e1 : (((c + 0 + d2) % 65536 : Nat) : Int) = ((c : Int) + d2) % 65536 := by omega
        have e2 : (((c + 0 + d2) / 65536 : Nat) : Int) = ((c : Int) + d2) / 65536 := by omega
        have E1 := Lib.hid e1
        have E2 := Lib.hid e2
        have HS := Lib.hid hst
        have HI := Lib.hid hI
        clear e1 e2 hst hI o1
        go_wp2_with (at_builtin; refine app1 rfl (.tmp 113) (.tmp 116) 57 82 (.int .u64 0) 8 rfl Tryd.underlying57 info_u64 rfl (by omega) _ (dvs ds) _ rfl rfl (by rfl) (by rw [dvs_length, HI.out.len]; exact hown) be (by rw [dvs_length, HI.out.len]; omega) ?_; intro v1 w1 hown1 hb1 _ _)
        go_roundw
        case rel =>
          refine ⟨k + 1, _, _, by go_num, ?_, HS.out, ?_, hb1⟩
          · first | exact congrArg (Value.int .u64) E2.out.symm | (rw [E2.out])
          · rw [dvs_snoc, E1.out]; rw [dvs_length, HI.out.len] at hown1; exact hown1
        case measure => simp only [intOf]; omega
      · by_cases hc0 : (0 : Int) < (c : Int)
        · have o1 : ds1.getD k 0 = 0 := getD_out _ _ _ (by omega)
          have o2 : ds2.getD k 0 = 0 := getD_out _ _ _ (by omega)
          have hst := hI.step D1.digs D2.digs (by omega)
          rw [o1] at hst
          rw [o2] at hst
          have e1 : (((c + 0 + 0) % 65536 : Nat) : Int) = ((c : Int)) % 65536 := by omega
          have e2 : (((c + 0 + 0) / 65536 : Nat) : Int) = ((c : Int)) / 65536 := by omega
          have E1 := Lib.hid e1
          have E2 := Lib.hid e2
          have HS := Lib.hid hst
          have HI := Lib.hid hI
          clear e1 e2 hst hI o1 o2
          go_wp2_with (at_builtin; refine app1 rfl (.tmp 113) (.tmp 116) 57 82 (.int .u64 0) 8 rfl Tryd.underlying57 info_u64 rfl (by omega) _ (dvs ds) _ rfl rfl (by rfl) (by rw [dvs_length, HI.out.len]; exact hown) be (by rw [dvs_length, HI.out.len]; omega) ?_; intro v1 w1 hown1 hb1 _ _)
          go_roundw
          case rel =>
            refine ⟨k + 1, _, _, by go_num, ?_, HS.out, ?_, hb1⟩
            · first | exact congrArg (Value.int .u64) E2.out.symm | (rw [E2.out])
            · rw [dvs_snoc, E1.out]; rw [dvs_length, HI.out.len] at hown1; exact hown1
          case measure => simp only [intOf]; omega
        · have hc00 : c = 0 := by omega
          have hdv := hI.done (by omega) (by omega) hc00
          have hsv := HE.out ds hdv
          obtain ⟨A, cc, rfl, hq1, hq2⟩ := own_slice hown
          have HB := trim_any n A k cc ds wr ⟨hI.len.symm, hq1, hq2, hI.digs, RdT.of_own hown⟩
          rw [hsv] at HB
          have HBc := Lib.hid HB
          clear hdv hsv HB hI hkl hc0 hc1
          subst hc00
          go_wp2_with fail
          refine HBc.out.mono ?_; rintro e w2 ⟨n2, A2, m2, c2, rfl, k2, hb2⟩
          have hB2 := bl_step be hb2
          obtain ⟨hc3, hf3⟩ := bcell hB2
          have hBx : Blk w2 (w.heap.size + 1 + 1) 59 #[.bool false, .slice none 0 0] := (Blk.new' (by simp) _ _).below hB2
          clear hcw hfw
          go_wp2
          refine bodyPost_ret (v := .agg #[.bool n2, .slice A2 m2 c2]) (by simp [results, Tryd.results59, go_sem, hc3, hf3]) rfl ⟨n2, A2, m2, c2, rfl, ?_, ?_⟩
          · exact (k2.set_ (p := ⟨w.heap.size + 1 + 1, 0, none⟩) hBx (by decide) _).set_ (p := ⟨w.heap.size + 1 + 1, 1, none⟩) (hBx.put 0 _ rfl) (by decide) _
          · exact bl_set (bl_set (bl_step hB1 hb2) (by simp <;> omega) _) (by simp <;> omega) _
set_option maxHeartbeats 3200000 in
theorem Add_far (n1 n2 : Bool) (A1 A2 : Option Addr) (m1 m2 c1 c2 : Nat) (z1 z2 : Int) (w : World) (h1 : BigV w n1 A1 m1 c1 z1) (h2 : BigV w n2 A2 m2 c2 z2) (s1 : Sm z1) (s2 : Sm z2) (hn : n1 ≠ n2) (hz : z2.natAbs ≤ z1.natAbs) :
    Calls Tryd.prog 59 #[.agg #[.bool n1, .slice A1 m1 c1], .agg #[.bool n2, .slice A2 m2 c2]] w (RetBig (z1 + z2) w) := by
  have HF := Lib.hid (fun W (hw : Below w.heap.size w W) => far_any n1 n2 A1 A2 m1 m2 c1 c2 z1 z2 W (h1.below hw) (h2.below hw))
  obtain ⟨ds1, D1, L1, N1, E1⟩ := h1.out
  obtain ⟨ds2, D2, L2, N2, E2⟩ := h2.out
  obtain rfl := D1.len
  obtain rfl := D2.len
  have l1 := s1.len L1 E1
  have l2 := s2.len L2 E2
  have l12 : ds2.length ≤ ds1.length := len_of_le ds1 ds2 D1.digs L2 (by omega)
  have hle : dval ds2 ≤ dval ds1 := by omega
  have x1 := D1.cap
  have x2 := D2.cap
  have y1 := D1.capm
  have y2 := D2.capm
  have hnb : (n1 == n2) = false := by simpa using hn
  have hf0 : (0 : Int) ≤ cmp3 (z1.natAbs : Int) (z2.natAbs : Int) := by unfold cmp3; split <;> (try split) <;> omega
  have HE : Hid (∀ ds, dval ds = dval ds1 - dval ds2 → sval n1 ds = z1 + z2) := Lib.hid (fun ds e => add_far_end n1 n2 z1 z2 ds1 ds2 ds hn hle N1 N2 E1 E2 e)
  have HLE := Lib.hid hle
  clear N1 N2 E1 E2 s1 s2 h1 h2 L1 L2 hn hz hle
  go_enter Tryd.func59, Tryd.ntmps59
  go_wp2_with fail
  refine (HF.out _ (bl_alloc (bl_alloc (bl_alloc (Below.refl _ _) _) _) _)).mono ?_; rintro e wf ⟨rfl, hbf⟩
  generalize cmp3 (z1.natAbs : Int) (z2.natAbs : Int) = f at hf0
  obtain ⟨hcf, hff⟩ := bcell hbf
  go_wp2_with fail
  clear hcf hff HF
  go_loopw [6, 7, 8] (fun vd vc vi wr => ∃ (k c : Nat) (ds : List Nat), vi = .int .i64 k ∧ vc = .int .u64 c ∧ SubIn ds1 ds2 ds k c ∧ wr.ownsRow (((w.alloc (.cells #[.bool n1, .slice A1 ds1.length c1] 59)).alloc (.cells #[.bool n2, .slice A2 ds2.length c2] 59)).alloc (.cells #[.bool false, .slice none 0 0] 59)).heap.size 82 1 vd k (dvs ds) ∧ Below (((w.alloc (.cells #[.bool n1, .slice A1 ds1.length c1] 59)).alloc (.cells #[.bool n2, .slice A2 ds2.length c2] 59)).alloc (.cells #[.bool false, .slice none 0 0] 59)).heap.size (((w.alloc (.cells #[.bool n1, .slice A1 ds1.length c1] 59)).alloc (.cells #[.bool n2, .slice A2 ds2.length c2] 59)).alloc (.cells #[.bool false, .slice none 0 0] 59)) wr) (fun _ _ vi _ => ds1.length - (intOf vi).toNat)
  case atStart => exact ⟨0, 0, [], rfl, rfl, .start _ _, own_nil _ _ _ _, hbf⟩
  case round =>
    obtain ⟨k, c, ds, rfl, rfl, hI, hown, be⟩ := hrel
    obtain ⟨hcw, hfw⟩ := bcell be
    have hB1 : Below w.heap.size w wr := bl_step (bl_alloc (bl_alloc (bl_alloc (Below.refl _ _) _) _) _) be
    have hc1 : (c : Int) ≤ 1 := by have := hI.c1; omega
    have HI := Lib.hid hI.len
    by_cases hk1 : k < ds1.length
    · obtain ⟨ad1, rfl, g1⟩ := (D1.below hB1).rd.at_ k (by rw [dvs_length]; exact hk1)
      rw [dvs_get ds1 k hk1, ← getD_in ds1 k 0 hk1] at g1
      by_cases hk2 : k < ds2.length
      · obtain ⟨ad2, rfl, g2⟩ := (D2.below hB1).rd.at_ k (by rw [dvs_length]; exact hk2)
        rw [dvs_get ds2 k hk2, ← getD_in ds2 k 0 hk2] at g2
        have b2 := digs_getD D2.digs k
        by_cases hx : ds1.getD k 0 < c + ds2.getD k 0
        · have hst := (hI.step (c' := 1) D1.digs D2.digs hk1 (by rw [if_pos (by omega)])).2
          have b1 := digs_getD D1.digs k
          clear hI
          generalize ds1.getD k 0 = d1 at g1 hst b1 hx
          have b1' : (d1 : Int) ≤ 65535 := by omega
          generalize ds2.getD k 0 = d2 at g2 hst hx b2
          have b2' : (d2 : Int) ≤ 65535 := by omega
          have hx1 : (d1 : Int) < (c : Int) + d2 := by omega
          have e1 : (((d1 + 65536 * 1 - (c + d2)) : Nat) : Int) = (d1 : Int) + 65536 - ((c : Int) + d2) := by omega
          have E1 := Lib.hid e1
          have HS := Lib.hid hst
          clear e1 hst hx
          go_wp2_with (at_builtin; refine app1 rfl (.tmp 53) (.tmp 64) 57 82 (.int .u64 0) 8 rfl Tryd.underlying57 info_u64 rfl (by omega) _ (dvs ds) _ rfl rfl (by rfl) (by rw [dvs_length, HI.out]; exact hown) be (by rw [dvs_length, HI.out]; omega) ?_; intro v1 w1 hown1 hb1 _ _)
          go_roundw
          case rel =>
            refine ⟨k + 1, _, _, by go_num, ?_, HS.out, ?_, hb1⟩
            · rfl
            · rw [dvs_snoc, E1.out]; rw [dvs_length, HI.out] at hown1; simpa using hown1
          case measure => simp only [intOf]; omega
        · have hst := (hI.step (c' := 0) D1.digs D2.digs hk1 (by rw [if_neg (by omega)])).2
          have b1 := digs_getD D1.digs k
          clear hI
          generalize ds1.getD k 0 = d1 at g1 hst b1 hx
          have b1' : (d1 : Int) ≤ 65535 := by omega
          generalize ds2.getD k 0 = d2 at g2 hst hx b2
          have b2' : (d2 : Int) ≤ 65535 := by omega
          have hx1 : ¬ (d1 : Int) < (c : Int) + d2 := by omega
          have hx2 : (c : Int) + d2 ≤ (d1 : Int) := by omega
          have e1 : (((d1 + 65536 * 0 - (c + d2)) : Nat) : Int) = (d1 : Int) + 0 - ((c : Int) + d2) := by omega
          have E1 := Lib.hid e1
          have HS := Lib.hid hst
          clear e1 hst hx
          go_wp2_with (at_builtin; refine app1 rfl (.tmp 53) (.tmp 64) 57 82 (.int .u64 0) 8 rfl Tryd.underlying57 info_u64 rfl (by omega) _ (dvs ds) _ rfl rfl (by rfl) (by rw [dvs_length, HI.out]; exact hown) be (by rw [dvs_length, HI.out]; omega) ?_; intro v1 w1 hown1 hb1 _ _)
          go_roundw
          case rel =>
            refine ⟨k + 1, _, _, by go_num, ?_, HS.out, ?_, hb1⟩
            · rfl
            · rw [dvs_snoc, E1.out]; rw [dvs_length, HI.out] at hown1; simpa using hown1
          case measure => simp only [intOf]; omega
      · have o2 : ds2.getD k 0 = 0 := getD_out _ _ _ (by omega)
        by_cases hx : ds1.getD k 0 < c
        · have hst := (hI.step (c' := 1) D1.digs D2.digs hk1 (by rw [if_pos (by omega)])).2
          have b1 := digs_getD D1.digs k
          clear hI
          rw [o2] at hst
          generalize ds1.getD k 0 = d1 at g1 hst b1 hx
          have b1' : (d1 : Int) ≤ 65535 := by omega
          have hx1 : (d1 : Int) < (c : Int) := by omega
          have e1 : (((d1 + 65536 * 1 - (c + 0)) : Nat) : Int) = (d1 : Int) + 65536 - ((c : Int)) := by omega
          have E1 := Lib.hid e1
          have HS := Lib.hid hst
          clear e1 hst hx o2
          go_wp2_with (at_builtin; refine app1 rfl (.tmp 53) (.tmp 64) 57 82 (.int .u64 0) 8 rfl Tryd.underlying57 info_u64 rfl (by omega) _ (dvs ds) _ rfl rfl (by rfl) (by rw [dvs_length, HI.out]; exact hown) be (by rw [dvs_length, HI.out]; omega) ?_; intro v1 w1 hown1 hb1 _ _)
          go_roundw
          case rel =>
            refine ⟨k + 1, _, _, by go_num, ?_, HS.out, ?_, hb1⟩
            · rfl
            · rw [dvs_snoc, E1.out]; rw [dvs_length, HI.out] at hown1; simpa using hown1
          case measure => simp only [intOf]; omega
        · have hst := (hI.step (c' := 0) D1.digs D2.digs hk1 (by rw [if_neg (by omega)])).2
          have b1 := digs_getD D1.digs k
          clear hI
          rw [o2] at hst
          generalize ds1.getD k 0 = d1 at g1 hst b1 hx
          have b1' : (d1 : Int) ≤ 65535 := by omega
          have hx1 : ¬ (d1 : Int) < (c : Int) := by omega
          have hx2 : (c : Int) ≤ (d1 : Int) := by omega
          have e1 : (((d1 + 65536 * 0 - (c + 0)) : Nat) : Int) = (d1 : Int) + 0 - ((c : Int)) := by omega
          have E1 := Lib.hid e1
          have HS := Lib.hid hst
          clear e1 hst hx o2
          go_wp2_with (at_builtin; refine app1 rfl (.tmp 53) (.tmp 64) 57 82 (.int .u64 0) 8 rfl Tryd.underlying57 info_u64 rfl (by omega) _ (dvs ds) _ rfl rfl (by rfl) (by rw [dvs_length, HI.out]; exact hown) be (by rw [dvs_length, HI.out]; omega) ?_; intro v1 w1 hown1 hb1 _ _)
          go_roundw
          case rel =>
            refine ⟨k + 1, _, _, by go_num, ?_, HS.out, ?_, hb1⟩
            · rfl
            · rw [dvs_snoc, E1.out]; rw [dvs_length, HI.out] at hown1; simpa using hown1
          case measure => simp only [intOf]; omega
    · have hdv := hI.done (by have := hI.le; omega) l12 HLE.out
      have hsv := HE.out ds hdv
      obtain ⟨A, cc, rfl, hq1, hq2⟩ := own_slice hown
      have HB := trim_any n1 A k cc ds wr ⟨hI.len.symm, hq1, hq2, hI.digs, RdT.of_own hown⟩
      rw [hsv] at HB
      have HBc := Lib.hid HB
      clear hdv hsv HB hI
      go_wp2_with fail
      refine HBc.out.mono ?_; rintro e w2 ⟨n3, A3, m3, c3, rfl, k2, hb2⟩
      have hB2 := bl_step be hb2
      obtain ⟨hc3, hf3⟩ := bcell hB2
      have hBx : Blk w2 (w.heap.size + 1 + 1) 59 #[.bool false, .slice none 0 0] := (Blk.new' (by simp) _ _).below hB2
      clear hcw hfw
      go_wp2
      refine bodyPost_ret (v := .agg #[.bool n3, .slice A3 m3 c3]) (by simp [results, Tryd.results59, go_sem, hc3, hf3]) rfl ⟨n3, A3, m3, c3, rfl, ?_, ?_⟩
      · exact (k2.set_ (p := ⟨w.heap.size + 1 + 1, 0, none⟩) hBx (by decide) _).set_ (p := ⟨w.heap.size + 1 + 1, 1, none⟩) (hBx.put 0 _ rfl) (by decide) _
      · exact bl_set (bl_set (bl_step hB1 hb2) (by simp <;> omega) _) (by simp <;> omega) _

set_option maxHeartbeats 1600000 in
theorem Add_near (n1 n2 : Bool) (A1 A2 : Option Addr) (m1 m2 c1 c2 : Nat) (z1 z2 : Int) (w : World) (h1 : BigV w n1 A1 m1 c1 z1) (h2 : BigV w n2 A2 m2 c2 z2) (s1 : Sm z1) (s2 : Sm z2) (hn : n1 ≠ n2) (hz : z1.natAbs < z2.natAbs) :
    Calls Tryd.prog 59 #[.agg #[.bool n1, .slice A1 m1 c1], .agg #[.bool n2, .slice A2 m2 c2]] w (RetBig (z1 + z2) w) := by
  have HF := Lib.hid (fun W (hw : Below w.heap.size w W) => far_any n1 n2 A1 A2 m1 m2 c1 c2 z1 z2 W (h1.below hw) (h2.below hw))
  have HR := fun W (hw : Below w.heap.size w W) => Add_far n2 n1 A2 A1 m2 m1 c2 c1 z2 z1 W (h2.below hw) (h1.below hw) s2 s1 (Ne.symm hn) (by omega)
  rw [Int.add_comm z2 z1] at HR
  have HRc := Lib.hid HR
  have hnb : (n1 == n2) = false := by simpa using hn
  have hf0 : cmp3 (z1.natAbs : Int) (z2.natAbs : Int) < (0 : Int) := by unfold cmp3; split <;> (try split) <;> omega
  clear hn hz s1 s2 h1 h2 HR
  go_enter Tryd.func59, Tryd.ntmps59
  go_wp2_with fail
  refine (HF.out _ (bl_alloc (bl_alloc (bl_alloc (Below.refl _ _) _) _) _)).mono ?_; rintro e wf ⟨rfl, hbf⟩
  generalize cmp3 (z1.natAbs : Int) (z2.natAbs : Int) = f at hf0
  obtain ⟨hcf, hff⟩ := bcell hbf
  go_wp2_with fail
  have hB1 : Below w.heap.size w wf := bl_step (bl_alloc (bl_alloc (bl_alloc (Below.refl _ _) _) _) _) hbf
  refine (HRc.out _ hB1).mono ?_; rintro e w2 ⟨n3, A3, m3, c3, rfl, k2, hb2⟩
  have hB2 := bl_step hbf hb2
  clear hcf hff
  obtain ⟨hc3, hf3⟩ := bcell hB2
  have hBx : Blk w2 (w.heap.size + 1 + 1) 59 #[.bool false, .slice none 0 0] := (Blk.new' (by simp) _ _).below hB2
  go_wp2
  refine bodyPost_ret (v := .agg #[.bool n3, .slice A3 m3 c3]) (by simp [results, Tryd.results59, go_sem, hc3, hf3]) rfl ⟨n3, A3, m3, c3, rfl, ?_, ?_⟩
  · exact (k2.set_ (p := ⟨w.heap.size + 1 + 1, 0, none⟩) hBx (by decide) _).set_ (p := ⟨w.heap.size + 1 + 1, 1, none⟩) (hBx.put 0 _ rfl) (by decide) _
  · exact bl_set (bl_set (bl_step hB1 hb2) (by simp <;> omega) _) (by simp <;> omega) _

theorem BAdd_any (n1 n2 : Bool) (A1 A2 : Option Addr) (m1 m2 c1 c2 : Nat) (z1 z2 : Int) (w : World) (h1 : BigV w n1 A1 m1 c1 z1) (h2 : BigV w n2 A2 m2 c2 z2) (s1 : Sm z1) (s2 : Sm z2) :
    Calls Tryd.prog 59 #[.agg #[.bool n1, .slice A1 m1 c1], .agg #[.bool n2, .slice A2 m2 c2]] w (RetBig (z1 + z2) w) := by
  by_cases hn : n1 = n2
  · subst hn; exact Add_same n1 A1 A2 m1 m2 c1 c2 z1 z2 w h1 h2 s1 s2
  · by_cases hz : z2.natAbs ≤ z1.natAbs
    · exact Add_far n1 n2 A1 A2 m1 m2 c1 c2 z1 z2 w h1 h2 s1 s2 hn hz
    · exact Add_near n1 n2 A1 A2 m1 m2 c1 c2 z1 z2 w h1 h2 s1 s2 hn (by omega)
end Go.Proofs.YtkdklmkcanjjfaaDoor
