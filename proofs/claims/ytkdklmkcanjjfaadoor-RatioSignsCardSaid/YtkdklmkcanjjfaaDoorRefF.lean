/- The walks of the reference for layer 1, part F: Mul. -/
import Derived.Test.YtkdklmkcanjjfaaDoorRefE
import Derived.Deep.OwnRows
namespace Go.Proofs.YtkdklmkcanjjfaaDoor
open Go.RowKit
set_option linter.unusedVariables false
set_option linter.unusedSimpArgs false
set_option maxRecDepth 100000

/-- Digits as a block's cells. -/
def dvA (ds : List Nat) : Array Value := (dvs ds).toArray
theorem dvA_get (ds : List Nat) (k : Nat) (hk : k < ds.length) : (dvA ds)[k]? = some (.int .u64 (ds.getD k 0 : Nat)) := by
  rw [getD_in _ _ _ hk]; simp [dvA, dvs, List.getElem?_map, List.getElem?_eq_getElem hk]
theorem dvA_set (ds : List Nat) (k x : Nat) : (dvA ds).setIfInBounds k (.int .u64 x) = dvA (ds.set k x) := by
  simp [dvA, dvs, List.map_set]
theorem dvA_zeros (n : Nat) : madeCells #[.int .u64 0] n = dvA (List.replicate n 0) := by
  apply Array.ext'
  rw [toList_madeCells_one]
  simp [dvA, dvs]
theorem RdT.of_blk {w : World} {g : Nat} {t : TypeId} {xs : List Value} (h : Blk w g t xs.toArray) : RdT w t (some ⟨g, 0, none⟩) xs :=
  ⟨.inr ⟨g, 0, _, _, rfl, h.out, fun j u hu => by simpa using hu⟩⟩

theorem mul_end (n1 n2 : Bool) (z1 z2 : Int) (ds1 ds2 ds : List Nat) (N1 : n1 = decide (z1 < 0)) (N2 : n2 = decide (z2 < 0)) (E1 : dval ds1 = z1.natAbs) (E2 : dval ds2 = z2.natAbs) (e : dval ds = dval ds1 * dval ds2) : sval (!(n1 == n2)) ds = z1 * z2 := by
  have hm : ((dval ds : Nat) : Int) = ((z1 * z2).natAbs : Nat) := by rw [e, E1, E2, Int.natAbs_mul]
  unfold sval
  rw [hm]
  cases n1 with
  | true =>
    have p1 := of_decide_eq_true N1.symm
    cases n2 with
    | true =>
      have p2 := of_decide_eq_true N2.symm
      have := Int.mul_pos_of_neg_of_neg p1 p2
      simp; omega
    | false =>
      have p2 := of_decide_eq_false N2.symm
      have : z1 * z2 ≤ 0 := Int.mul_nonpos_of_nonpos_of_nonneg (by omega) (by omega)
      simp; omega
  | false =>
    have p1 := of_decide_eq_false N1.symm
    cases n2 with
    | true =>
      have p2 := of_decide_eq_true N2.symm
      have : z1 * z2 ≤ 0 := Int.mul_nonpos_of_nonneg_of_nonpos (by omega) (by omega)
      simp; omega
    | false =>
      have p2 := of_decide_eq_false N2.symm
      have : 0 ≤ z1 * z2 := Int.mul_nonneg (by omega) (by omega)
      simp; omega
set_option maxHeartbeats 3200000 in
theorem BMul_any (n1 n2 : Bool) (A1 A2 : Option Addr) (m1 m2 c1 c2 : Nat) (z1 z2 : Int) (w : World) (h1 : BigV w n1 A1 m1 c1 z1) (h2 : BigV w n2 A2 m2 c2 z2) (s1 : Sm z1) (s2 : Sm z2) :
    Calls Tryd.prog 58 #[.agg #[.bool n1, .slice A1 m1 c1], .agg #[.bool n2, .slice A2 m2 c2]] w (RetBig (z1 * z2) w) := by
  obtain ⟨ds1, D1, L1, N1, E1⟩ := h1.out
  obtain ⟨ds2, D2, L2, N2, E2⟩ := h2.out
  obtain rfl := D1.len
  obtain rfl := D2.len
  have l1 := s1.len L1 E1
  have l2 := s2.len L2 E2
  have x1 := D1.cap
  have x2 := D2.cap
  have y1 := D1.capm
  have y2 := D2.capm
  have hmk := fun W => run_make_row' (P := Tryd.prog) 57 82 (.int .u64 0) 8 Tryd.underlying57 info_u64 rfl .i64 .i64 (ds1.length + ds2.length + 1) (by omega) (by omega) W
  rw [show (((ds1.length + ds2.length + 1 : Nat)) : Int) = (ds1.length : Int) + ds2.length + 1 by omega] at hmk
  have HE : Hid (∀ ds, dval ds = dval ds1 * dval ds2 → sval (!(n1 == n2)) ds = z1 * z2) := Lib.hid (fun ds e => mul_end n1 n2 z1 z2 ds1 ds2 ds N1 N2 E1 E2 e)
  clear N1 N2 E1 E2 s1 s2 h1 h2 L1 L2
  go_enter Tryd.func58, Tryd.ntmps58
  go_wp2_with fail
  clear hmk
  rw [dvA_zeros]
  go_loopw [6] (fun vi wr => ∃ (i : Nat) (ds : List Nat), vi = .int .i64 i ∧ MulOut ds1 ds2 ds i ∧ Blk wr (w.heap.size + 1 + 1 + 1) 82 (dvA ds) ∧ Below (((w.alloc (.cells #[.bool n1, .slice A1 ds1.length c1] 59)).alloc (.cells #[.bool n2, .slice A2 ds2.length c2] 59)).alloc (.cells #[.bool false, .slice none 0 0] 59)).heap.size (((w.alloc (.cells #[.bool n1, .slice A1 ds1.length c1] 59)).alloc (.cells #[.bool n2, .slice A2 ds2.length c2] 59)).alloc (.cells #[.bool false, .slice none 0 0] 59)) wr) (fun vi _ => ds1.length - (intOf vi).toNat)
  case atStart => exact ⟨0, _, rfl, .start _ _, Blk.new' (by simp) _ _, bl_alloc (Below.refl _ _) _⟩
  case round =>
    obtain ⟨i, ds, rfl, hI, hD, be⟩ := hrel
    obtain ⟨hcw, hfw⟩ := bcell be
    by_cases hk1 : i < ds1.length
    · have hI2 := hI.inner hk1
      clear hI
      go_wp2_with fail
      clear hcw hfw
      go_loopw [7, 8] (fun vc vk w2 => ∃ (c k : Nat) (ds : List Nat), vc = .int .u64 c ∧ vk = .int .i64 k ∧ MulIn ds1 ds2 ds i k c ∧ Blk w2 (w.heap.size + 1 + 1 + 1) 82 (dvA ds) ∧ Below (((w.alloc (.cells #[.bool n1, .slice A1 ds1.length c1] 59)).alloc (.cells #[.bool n2, .slice A2 ds2.length c2] 59)).alloc (.cells #[.bool false, .slice none 0 0] 59)).heap.size (((w.alloc (.cells #[.bool n1, .slice A1 ds1.length c1] 59)).alloc (.cells #[.bool n2, .slice A2 ds2.length c2] 59)).alloc (.cells #[.bool false, .slice none 0 0] 59)) w2) (fun _ vk _ => ds2.length + 1 - (intOf vk).toNat)
      case atStart => exact ⟨0, 0, ds, rfl, rfl, hI2, hD, be⟩
      case round =>
        clear hI2 hD be
        obtain ⟨c, k, ds, rfl, rfl, hI, hD, be⟩ := hrel
        obtain ⟨hcw, hfw⟩ := bcell be
        have hB1 : Below w.heap.size w wr := bl_step (bl_alloc (bl_alloc (bl_alloc (Below.refl _ _) _) _) _) be
        have hlen := hI.len
        by_cases hk2 : k < ds2.length
        · obtain ⟨ad1, rfl, g1⟩ := (D1.below hB1).rd.at_ i (by rw [dvs_length]; exact hk1)
          rw [dvs_get ds1 i hk1, ← getD_in ds1 i 0 hk1] at g1
          have hkl := hI.klt D1.digs D2.digs (by omega)
          have hjN : i + k < ds.length := by have := hI.len; omega
          obtain ⟨ad2, rfl, g2⟩ := (D2.below hB1).rd.at_ k (by rw [dvs_length]; exact hk2)
          rw [dvs_get ds2 k hk2, ← getD_in ds2 k 0 hk2] at g2
          have hst := hI.step D1.digs D2.digs hkl rfl
          have b3 := digs_getD hI.digs (i + k)
          have gd := hD.cell (i + k)
          rw [dvA_get ds (i + k) hjN] at gd
          have gf := hD.frozen (i + k)
          have b2 := digs_getD D2.digs k
          have hPut : ∀ x : Nat, (dvA ds).setIfInBounds (i + k) (.int .u64 x) = dvA (ds.set (i + k) x) := fun x => dvA_set ds (i + k) x
          generalize ds.getD (i + k) 0 = dj at gd hst b3
          have b1 := digs_getD D1.digs i
          generalize ds2.getD k 0 = d2 at g2 hst b2
          generalize ds1.getD i 0 = d1 at g1 hst b1
          obtain ⟨htl, hst⟩ := hst
          have hc1 := hI.c1
          have bj : (dj : Int) ≤ 65535 := by omega
          have bc : (c : Int) ≤ 65535 := by omega
          have bp0 : (0 : Int) ≤ (d1 : Int) * (d2 : Int) := Int.mul_nonneg (by omega) (by omega)
          have bp1 : (d1 : Int) * (d2 : Int) ≤ 4294967295 := by have e : ((d1 * d2 : Nat) : Int) = (d1 : Int) * d2 := Int.natCast_mul d1 d2; omega
          have bt : (c : Int) + dj + d1 * d2 ≤ 4294967295 := by have e : ((d1 * d2 : Nat) : Int) = (d1 : Int) * d2 := Int.natCast_mul d1 d2; omega
          have e1 : (((c + dj + d1 * d2) % 65536 : Nat) : Int) = ((c : Int) + dj + d1 * d2) % 65536 := by rw [Int.natCast_emod]; simp [Int.natCast_add, Int.natCast_mul]
          have e2 : (((c + dj + d1 * d2) / 65536 : Nat) : Int) = ((c : Int) + dj + d1 * d2) / 65536 := by rw [Int.natCast_ediv]; simp [Int.natCast_add, Int.natCast_mul]
          have hik : (i : Int) + (k : Int) < (ds1.length : Int) + ds2.length + 1 := by omega
          have hik0 : (0 : Int) ≤ (i : Int) + (k : Int) := by omega
          have hikn : ((i : Int) + (k : Int)).toNat = i + k := by omega
          have E1 := Lib.hid e1
          have E2 := Lib.hid e2
          have HS := Lib.hid hst
          have HP := Lib.hid hPut
          clear e1 e2 hst hPut hI htl
          go_wp2_with fail
          go_quiet (fail)
          go_wp2
          go_roundw
          case rel =>
            refine ⟨_, k + 1, _, ?_, by go_num, HS.out, ?_, ?_⟩
            · exact congrArg (Value.int .u64) E2.out.symm
            · exact (hD.drewN _).put (i + k) _ (by rw [← E1.out]; exact HP.out _)
            · exact bl_set (bl_drewN be _) (by simp) _
          case measure => simp only [intOf]; omega
        · by_cases hc0 : (0 : Int) < (c : Int)
          · have hkl := hI.klt D1.digs D2.digs (by omega)
            have hjN : i + k < ds.length := by have := hI.len; omega
            have o2 : ds2.getD k 0 = 0 := getD_out _ _ _ (by omega)
            have hst := hI.step D1.digs D2.digs hkl rfl
            have b3 := digs_getD hI.digs (i + k)
            have gd := hD.cell (i + k)
            rw [dvA_get ds (i + k) hjN] at gd
            have gf := hD.frozen (i + k)
            rw [o2, Nat.mul_zero, Nat.add_zero] at hst
            have hPut : ∀ x : Nat, (dvA ds).setIfInBounds (i + k) (.int .u64 x) = dvA (ds.set (i + k) x) := fun x => dvA_set ds (i + k) x
            generalize ds.getD (i + k) 0 = dj at gd hst b3
            clear o2
            obtain ⟨htl, hst⟩ := hst
            have hc1 := hI.c1
            have bj : (dj : Int) ≤ 65535 := by omega
            have bc : (c : Int) ≤ 65535 := by omega
            have e1 : (((c + dj) % 65536 : Nat) : Int) = ((c : Int) + dj) % 65536 := by rw [Int.natCast_emod]; simp [Int.natCast_add, Int.natCast_mul]
            have e2 : (((c + dj) / 65536 : Nat) : Int) = ((c : Int) + dj) / 65536 := by rw [Int.natCast_ediv]; simp [Int.natCast_add, Int.natCast_mul]
            have hik : (i : Int) + (k : Int) < (ds1.length : Int) + ds2.length + 1 := by omega
            have hik0 : (0 : Int) ≤ (i : Int) + (k : Int) := by omega
            have hikn : ((i : Int) + (k : Int)).toNat = i + k := by omega
            have E1 := Lib.hid e1
            have E2 := Lib.hid e2
            have HS := Lib.hid hst
            have HP := Lib.hid hPut
            clear e1 e2 hst hPut hI htl
            go_wp2_with fail
            go_roundw
            case rel =>
              refine ⟨_, k + 1, _, ?_, by go_num, HS.out, ?_, ?_⟩
              · exact congrArg (Value.int .u64) E2.out.symm
              · exact hD.put (i + k) _ (by rw [← E1.out]; exact HP.out _)
              · exact bl_set be (by simp) _
            case measure => simp only [intOf]; omega
          · have hc00 : c = 0 := by omega
            have hO := hI.done (by omega) hc00
            clear hI hc0
            subst hc00
            go_wp2
            go_roundw
            case rel => exact ⟨i + 1, ds, by go_num, hO, hD, be⟩
            case measure => simp only [intOf]; omega
    · have hdv := hI.done (by have := hI.le; omega)
      have hsv : sval (!(n1 == n2)) ds = z1 * z2 := HE.out ds hdv
      have HB := trim_any (!(n1 == n2)) (some ⟨w.heap.size + 1 + 1 + 1, 0, none⟩) (ds1.length + ds2.length + 1) (ds1.length + ds2.length + 1) ds wr ⟨hI.len.symm, Nat.le_refl _, by omega, hI.digs, RdT.of_blk hD⟩
      rw [hsv] at HB
      have HBc := Lib.hid HB
      clear hdv hsv HB hI
      go_wp2_with fail
      refine HBc.out.mono ?_; rintro e w2 ⟨n3, A3, m3, c3, rfl, k2, hb2⟩
      have hB2 := bl_step be hb2
      obtain ⟨hc3, hf3⟩ := bcell hB2
      have hBx : Blk w2 (w.heap.size + 1 + 1) 59 #[.bool false, .slice none 0 0] := (Blk.new' (by simp) _ _).below hB2
      have hB1 : Below w.heap.size w w2 := bl_step (bl_alloc (bl_alloc (bl_alloc (Below.refl _ _) _) _) _) hB2
      clear hcw hfw
      go_wp2
      refine bodyPost_ret (v := .agg #[.bool n3, .slice A3 m3 c3]) (by simp [results, Tryd.results58, go_sem, hc3, hf3]) rfl ⟨n3, A3, m3, c3, rfl, ?_, ?_⟩
      · exact (k2.set_ (p := ⟨w.heap.size + 1 + 1, 0, none⟩) hBx (by decide) _).set_ (p := ⟨w.heap.size + 1 + 1, 1, none⟩) (hBx.put 0 _ rfl) (by decide) _
      · exact bl_set (bl_set hB1 (by simp <;> omega) _) (by simp <;> omega) _
end Go.Proofs.YtkdklmkcanjjfaaDoor
