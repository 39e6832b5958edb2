/- The walks of the reference for layer 1, part B: Of. -/
import Derived.Test.YtkdklmkcanjjfaaDoorRefA
namespace Go.Proofs.YtkdklmkcanjjfaaDoor
open Go.RowKit
set_option linter.unusedVariables false
set_option linter.unusedSimpArgs false
set_option maxRecDepth 100000

theorem info_u64 : (Tryd.prog.info? 82).map (fun i => (i.zero, i.size, i.bytes)) = some (some (.int .u64 0), 1, 8) := by kernel_rfl

/-- How the rounds of Of stand: k digits are made, u is left. -/
structure OfIn (w : World) (U : Nat) (k u : Nat) (v : Value) (wr : World) : Prop where
  k4 : k ≤ 4
  row : ∃ ds, ds.length = k ∧ Digs ds ∧ dval ds + 65536 ^ k * u = U ∧ wr.ownsRow w.heap.size 82 1 v k (dvs ds)
  be : Below w.heap.size w wr

set_option maxHeartbeats 1600000 in
theorem Of_any (a : Int) (w : World) (ha : InI a) : Calls Tryd.prog 41 #[.int .i64 a] w (RetBig a w) := by
  have a1 := ha.1
  have a2 := ha.2
  by_cases h : a < 0
  · have hd0 : decide (a < 0) = true := decide_eq_true h
    go_enter Tryd.func41, Tryd.ntmps41
    go_wp2_with fail
    go_loopw [3, 4, 5] (fun vu vd vi wr => ∃ k u : Nat, vi = .int .i64 k ∧ vu = .int .u64 u ∧ OfIn (w.alloc (.cells #[.bool false, .slice none 0 0] 59)) a.natAbs k u vd wr) (fun _ _ vi _ => 4 - (intOf vi).toNat)
    case atStart => exact ⟨0, a.natAbs, rfl, by rw [show ((a.natAbs : Nat) : Int) = -(a + 1) + 1 by omega], ⟨by omega, ⟨[], rfl, (fun d hd => by cases hd), by simp [dval], own_nil _ _ _ _⟩, Below.refl _ _⟩⟩
    case round =>
      obtain ⟨k, u, rfl, rfl, hk, ⟨ds, hdl, hdd, hdv, hown⟩, be⟩ := hrel
      have HL := Lib.hid hdl
      have HD := Lib.hid hdd
      have HV := Lib.hid hdv
      have hu : (u : Int) ≤ 9223372036854775808 := by
        have h1 : 1 * u ≤ 65536 ^ k * u := Nat.mul_le_mul_right _ (Nat.pow_pos (by omega))
        omega
      clear hdl hdd hdv
      by_cases hlt : k < 4
      · go_wp2_with (at_builtin; refine app1 (w0 := w.alloc (.cells #[.bool false, .slice none 0 0] 59)) rfl (.tmp 19) (.tmp 22) 57 82 (.int .u64 0) 8 rfl Tryd.underlying57 info_u64 rfl (by omega) _ (dvs ds) (.int .u64 ((u : Int) % 65536)) rfl rfl rfl (by rw [dvs_length, HL.out]; exact hown) be (by rw [dvs_length, HL.out]; omega) ?_; intro v1 w1 hown1 hb1 _ _)
        go_roundw
        case rel =>
          refine ⟨k + 1, u / 65536, by go_num, by rw [Int.natCast_ediv]; rfl, ⟨by omega, ⟨ds ++ [u % 65536], by simp [HL.out], digs_snoc HD.out (by omega), ?_, ?_⟩, hb1⟩⟩
          · rw [dval_snoc, HL.out, ← HV.out, Nat.pow_succ, Nat.add_assoc, Nat.mul_assoc, ← Nat.mul_add]
            congr 2; omega
          · rw [dvs_snoc, Int.natCast_emod]
            rw [dvs_length, HL.out] at hown1; exact hown1
        case measure => simp only [intOf]; omega
      · have hk4 : k = 4 := by omega
        subst hk4
        obtain ⟨A, c, rfl, hc1, hc2⟩ := own_slice hown
        have hv : dval ds = a.natAbs := by
          have h1 := HV.out
          have h2 := dval_lt ds HD.out
          rw [HL.out] at h2
          have : u = 0 := by
            by_cases hu : u = 0
            · exact hu
            · have : 65536 ^ 4 * 1 ≤ 65536 ^ 4 * u := Nat.mul_le_mul_left _ (by omega)
              omega
          subst this; simpa using h1
        have hsv : sval true ds = a := by unfold sval; rw [hv]; simp; omega
        have HB := Lib.hid (fun W (hw : Below wr.heap.size wr W) => trim_any true A 4 c ds W ⟨HL.out.symm, hc1, hc2, HD.out, (RdT.of_own hown).below hw⟩)
        rw [hsv] at HB
        clear hv hsv
        obtain ⟨hcw, hfw⟩ := bcell be
        go_wp2_with fail
        refine (HB.out _ (Below.refl _ _)).mono ?_; rintro e w2 ⟨n2, A2, m2, c2, rfl, k2, hb2⟩
        have hB2 := bl_step be hb2
        obtain ⟨hc3, hf3⟩ := bcell hB2
        have hBx : Blk w2 w.heap.size 59 #[.bool false, .slice none 0 0] := (Blk.new _ _ _).below hB2
        clear hcw hfw
        go_wp2
        refine bodyPost_ret (v := .agg #[.bool n2, .slice A2 m2 c2]) (by simp [results, Tryd.results41, go_sem, hc3, hf3]) rfl ⟨n2, A2, m2, c2, rfl, ?_, ?_⟩
        · exact (k2.set_ (p := ⟨w.heap.size, 0, none⟩) hBx (by decide) _).set_ (p := ⟨w.heap.size, 1, none⟩) (hBx.put 0 _ rfl) (by decide) _
        · exact bl_set (bl_set (bl_step (bl_alloc (Below.refl _ _) _) hB2) (by simp) _) (by simp) _
  · have hd0 : decide (a < 0) = false := decide_eq_false h
    go_enter Tryd.func41, Tryd.ntmps41
    go_wp2_with fail
    go_loopw [3, 4, 5] (fun vu vd vi wr => ∃ k u : Nat, vi = .int .i64 k ∧ vu = .int .u64 u ∧ OfIn (w.alloc (.cells #[.bool false, .slice none 0 0] 59)) a.natAbs k u vd wr) (fun _ _ vi _ => 4 - (intOf vi).toNat)
    case atStart => exact ⟨0, a.natAbs, rfl, by rw [show ((a.natAbs : Nat) : Int) = a by omega], ⟨by omega, ⟨[], rfl, (fun d hd => by cases hd), by simp [dval], own_nil _ _ _ _⟩, Below.refl _ _⟩⟩
    case round =>
      obtain ⟨k, u, rfl, rfl, hk, ⟨ds, hdl, hdd, hdv, hown⟩, be⟩ := hrel
      have HL := Lib.hid hdl
      have HD := Lib.hid hdd
      have HV := Lib.hid hdv
      have hu : (u : Int) ≤ 9223372036854775808 := by
        have h1 : 1 * u ≤ 65536 ^ k * u := Nat.mul_le_mul_right _ (Nat.pow_pos (by omega))
        omega
      clear hdl hdd hdv
      by_cases hlt : k < 4
      · go_wp2_with (at_builtin; refine app1 (w0 := w.alloc (.cells #[.bool false, .slice none 0 0] 59)) rfl (.tmp 19) (.tmp 22) 57 82 (.int .u64 0) 8 rfl Tryd.underlying57 info_u64 rfl (by omega) _ (dvs ds) (.int .u64 ((u : Int) % 65536)) rfl rfl rfl (by rw [dvs_length, HL.out]; exact hown) be (by rw [dvs_length, HL.out]; omega) ?_; intro v1 w1 hown1 hb1 _ _)
        go_roundw
        case rel =>
          refine ⟨k + 1, u / 65536, by go_num, by rw [Int.natCast_ediv]; rfl, ⟨by omega, ⟨ds ++ [u % 65536], by simp [HL.out], digs_snoc HD.out (by omega), ?_, ?_⟩, hb1⟩⟩
          · rw [dval_snoc, HL.out, ← HV.out, Nat.pow_succ, Nat.add_assoc, Nat.mul_assoc, ← Nat.mul_add]
            congr 2; omega
          · rw [dvs_snoc, Int.natCast_emod]
            rw [dvs_length, HL.out] at hown1; exact hown1
        case measure => simp only [intOf]; omega
      · have hk4 : k = 4 := by omega
        subst hk4
        obtain ⟨A, c, rfl, hc1, hc2⟩ := own_slice hown
        have hv : dval ds = a.natAbs := by
          have h1 := HV.out
          have h2 := dval_lt ds HD.out
          rw [HL.out] at h2
          have : u = 0 := by
            by_cases hu : u = 0
            · exact hu
            · have : 65536 ^ 4 * 1 ≤ 65536 ^ 4 * u := Nat.mul_le_mul_left _ (by omega)
              omega
          subst this; simpa using h1
        have hsv : sval false ds = a := by unfold sval; rw [hv]; simp; omega
        have HB := Lib.hid (fun W (hw : Below wr.heap.size wr W) => trim_any false A 4 c ds W ⟨HL.out.symm, hc1, hc2, HD.out, (RdT.of_own hown).below hw⟩)
        rw [hsv] at HB
        clear hv hsv
        obtain ⟨hcw, hfw⟩ := bcell be
        go_wp2_with fail
        refine (HB.out _ (Below.refl _ _)).mono ?_; rintro e w2 ⟨n2, A2, m2, c2, rfl, k2, hb2⟩
        have hB2 := bl_step be hb2
        obtain ⟨hc3, hf3⟩ := bcell hB2
        have hBx : Blk w2 w.heap.size 59 #[.bool false, .slice none 0 0] := (Blk.new _ _ _).below hB2
        clear hcw hfw
        go_wp2
        refine bodyPost_ret (v := .agg #[.bool n2, .slice A2 m2 c2]) (by simp [results, Tryd.results41, go_sem, hc3, hf3]) rfl ⟨n2, A2, m2, c2, rfl, ?_, ?_⟩
        · exact (k2.set_ (p := ⟨w.heap.size, 0, none⟩) hBx (by decide) _).set_ (p := ⟨w.heap.size, 1, none⟩) (hBx.put 0 _ rfl) (by decide) _
        · exact bl_set (bl_set (bl_step (bl_alloc (Below.refl _ _) _) hB2) (by simp) _) (by simp) _
end Go.Proofs.YtkdklmkcanjjfaaDoor
