/- The walk of the document's bound. -/
import Derived.Test.YtamfhommmogknaaDS
namespace Go.Proofs.Ytamfhommmogknaa
open Go Go.RowKit
set_option linter.unusedVariables false
set_option linter.unusedSimpArgs false
set_option maxRecDepth 100000

theorem take_sum {l : List Int} {i : Nat} {x : Int} (hx : l[i]? = some x) : (l.take (i + 1)).sum = (l.take i).sum + x := by
  rw [List.take_add_one, hx, List.sum_append]; simp
theorem take_w {l : List Int} (h : ∀ x ∈ l, InW x) (i : Nat) : -(i * 549755813888 : Int) ≤ (l.take i).sum ∧ (l.take i).sum ≤ (i * 549755813888 : Int) := by
  have h1 := sum_w (l.take i) (fun x hx => h x (List.mem_of_mem_take hx))
  have h2 : (l.take i).length ≤ i := by rw [List.length_take]; omega
  omega
theorem in_all {l : List Int} {n : Nat} (hn : l.length = n) (h : ∀ (j : Nat) (x : Int), j < n → l[j]? = some x → InW x) : ∀ x ∈ l, InW x := fun x hx => by
  obtain ⟨j, hj⟩ := List.getElem?_of_mem hx
  exact h j x (by have := (List.getElem?_eq_some_iff.1 hj).1; omega) hj
theorem in_step {l : List Int} {i : Nat} {x : Int} (h : ∀ (j : Nat) (y : Int), j < i → l[j]? = some y → InW y) (hx : l[i]? = some x) (hw : InW x) : ∀ (j : Nat) (y : Int), j < i + 1 → l[j]? = some y → InW y := fun j y hj hy => by
  by_cases h5 : j < i
  · exact h j y h5 hy
  · obtain rfl : j = i := by omega
    rw [hx] at hy
    obtain rfl := Option.some.inj hy
    exact hw
set_option maxHeartbeats 12800000 in
theorem rbound_n (c : List (List Int)) (no : List (List Bool)) (rows cols : List Int) (A1 A2 R C : Option Addr) (c1 c2 rc cc rn cn : Nat) (w : World) {B : Nat} (hI : TabAt w B c no A1 c1 A2 c2) (hr : RdI w B R rows) (hc : RdI w B C cols) (hrn : rows.length = rn) (hcn : cols.length = cn) :
    Calls Try.prog 15 #[.slice A1 c.length c1, .slice A2 no.length c2, .slice R rn rc, .slice C cn cc] w fun e w' => BoundPost w c no rows cols e w' := by
  have HI := Lib.hid hI
  have HR := Lib.hid hr
  have HCC := Lib.hid hc
  have HC := Lib.hid (rchk_any c no A1 A2 c1 c2 w hI)
  have N1 := hI.n1
  have N2 := hI.n2
  have bd := hI.bd
  have HRN := Lib.hid hrn
  have HCN := Lib.hid hcn
  clear hI hr hc hrn hcn
  by_cases hP : ChkP c no
  · rw [chkB_t hP] at HC
    rw [hP.2.1] at HC N2 ⊢
    have h64 := hP.1
    have HP := Lib.hid hP
    clear hP
    by_cases hl1 : rn = c.length
    · subst hl1
      by_cases hl2 : cn = c.length
      · subst hl2
        go_enter Try.func15, Try.ntmps15
        go_wp2_with fail
        (with_reducible refine HC.out.mono ?_); rintro e v1 ⟨rfl, hb1⟩
        have HW1 := Lib.hid hb1
        clear hb1 HC
        go_wp2_with fail
        go_loopw [13] (fun vi wr => ∃ (i : Nat), vi = .int .i64 i ∧ i ≤ c.length ∧ Hid (Below w.heap.size w wr) ∧ Hid (∀ (j : Nat) (x : Int), j < i → rows[j]? = some x → InW x) ∧ Hid (∀ (j : Nat) (x : Int), j < i → cols[j]? = some x → InW x)) (fun vi _ => c.length - (intOf vi).toNat)
        case atStart => exact ⟨0, rfl, Nat.zero_le _, HW1, Lib.hid (fun j x h => absurd h (by omega)), Lib.hid (fun j x h => absurd h (by omega))⟩
        case round =>
          clear HW1
          obtain ⟨i, rfl, hi, HW, HJ, HK⟩ := hrel
          by_cases hlt : i < c.length
          · obtain ⟨x, hx⟩ : ∃ x, rows[i]? = some x := ⟨_, List.getElem?_eq_getElem (by have := HRN.out; omega)⟩
            obtain ⟨y, hy⟩ : ∃ y, cols[i]? = some y := ⟨_, List.getElem?_eq_getElem (by have := HCN.out; omega)⟩
            obtain ⟨b, o, rfl, hb, hx0⟩ := HR.out.get hx
            obtain ⟨b2, o2, rfl, hb2, hy0⟩ := HCC.out.get hy
            have hx1 := (HW.out.cell (p := ⟨b, o + i, none⟩) (Nat.lt_of_lt_of_le hb bd)).trans hx0
            have hy1 := (HW.out.cell (p := ⟨b2, o2 + i, none⟩) (Nat.lt_of_lt_of_le hb2 bd)).trans hy0
            have HX := Lib.hid hx
            have HY := Lib.hid hy
            have i1 : (i : Int) < (c.length : Int) := by omega
            have i0 : (0 : Int) ≤ (i : Int) := by omega
            clear hx hy hx0 hy0
            by_cases hw : InW x ∧ InW y
            · have HJ2 := Lib.hid (in_step HJ.out HX.out hw.1)
              have HK2 := Lib.hid (in_step HK.out HY.out hw.2)
              obtain ⟨⟨m1, m2⟩, m3, m4⟩ := hw
              have q1 : ¬ x < -549755813888 := by omega
              have q2 : ¬ 549755813888 < x := by omega
              have q3 : ¬ y < -549755813888 := by omega
              have q4 : ¬ 549755813888 < y := by omega
              go_wp2_with fail
              go_roundw
              case rel => exact ⟨i + 1, by go_num, by omega, HW, HJ2, HK2⟩
              case measure => simp only [intOf]; omega
            · have HN := Lib.hid (show ¬ BoundP c no rows cols from fun h => hw ⟨h.2.2.2.1 x (List.mem_of_getElem? HX.out), h.2.2.2.2.1 y (List.mem_of_getElem? HY.out)⟩)
              by_cases q1 : x < -549755813888
              · clear hw
                go_wp2_with fail
                refine bodyPost_ret (v := .tuple #[.int .i64 0, .bool false]) (by simp [results, Try.results15, go_sem]) rfl ⟨.inr ⟨HN.out, rfl⟩, HW.out⟩
              · by_cases q2 : 549755813888 < x
                · clear hw
                  go_wp2_with fail
                  refine bodyPost_ret (v := .tuple #[.int .i64 0, .bool false]) (by simp [results, Try.results15, go_sem]) rfl ⟨.inr ⟨HN.out, rfl⟩, HW.out⟩
                · by_cases q3 : y < -549755813888
                  · clear hw
                    go_wp2_with fail
                    refine bodyPost_ret (v := .tuple #[.int .i64 0, .bool false]) (by simp [results, Try.results15, go_sem]) rfl ⟨.inr ⟨HN.out, rfl⟩, HW.out⟩
                  · have q4 : 549755813888 < y := by
                      unfold InW at hw
                      omega
                    clear hw
                    go_wp2_with fail
                    refine bodyPost_ret (v := .tuple #[.int .i64 0, .bool false]) (by simp [results, Try.results15, go_sem]) rfl ⟨.inr ⟨HN.out, rfl⟩, HW.out⟩
          · obtain rfl : i = c.length := by omega
            have HRW := Lib.hid (in_all HRN.out HJ.out)
            have HCW := Lib.hid (in_all HCN.out HK.out)
            clear hlt hi HJ HK
            go_wp2_with fail
            go_loopw [12, 14] (fun vs vi wr => ∃ (i : Nat) (S : Int), vi = .int .i64 i ∧ vs = .int .i64 S ∧ i ≤ c.length ∧ Hid (Below w.heap.size w wr) ∧ Hid (S = (rows.take i).sum + (cols.take i).sum) ∧ Hid (fairB c no rows cols i 0 = true)) (fun _ vi _ => c.length - (intOf vi).toNat)
            case atStart => exact ⟨0, 0, rfl, rfl, Nat.zero_le _, HW, Lib.hid (by simp), Lib.hid fair_zero⟩
            case round =>
              clear HW
              obtain ⟨i, S, rfl, rfl, hi, HW, HS, HF⟩ := hrel
              by_cases hlt : i < c.length
              · obtain ⟨x, hx⟩ : ∃ x, rows[i]? = some x := ⟨_, List.getElem?_eq_getElem (by have := HRN.out; omega)⟩
                obtain ⟨y, hy⟩ : ∃ y, cols[i]? = some y := ⟨_, List.getElem?_eq_getElem (by have := HCN.out; omega)⟩
                obtain ⟨b, o, rfl, hb, hx0⟩ := HR.out.get hx
                obtain ⟨b2, o2, rfl, hb2, hy0⟩ := HCC.out.get hy
                obtain ⟨r, hr⟩ : ∃ r, c[i]? = some r := ⟨_, List.getElem?_eq_getElem hlt⟩
                obtain ⟨e1, ⟨q, hq, e2⟩, hrin⟩ := HP.out.2.2 i r hr
                obtain ⟨b5, o5, A', c', rfl, hb5, hc, m1, m2, hrd⟩ := HI.out.cost.get hr
                obtain ⟨b6, o6, Q', d', rfl, hb6, hd, k1, k2, hqd⟩ := HI.out.no_.get hq
                rw [e1] at hc m1
                rw [e2] at hd k1
                have hx1 := (HW.out.cell (p := ⟨b, o + i, none⟩) (Nat.lt_of_lt_of_le hb bd)).trans hx0
                have hy1 := (HW.out.cell (p := ⟨b2, o2 + i, none⟩) (Nat.lt_of_lt_of_le hb2 bd)).trans hy0
                have x1 : -549755813888 ≤ x ∧ x ≤ 549755813888 := HRW.out x (List.mem_of_getElem? hx)
                have y1 : -549755813888 ≤ y ∧ y ≤ 549755813888 := HCW.out y (List.mem_of_getElem? hy)
                have s1 := take_w HRW.out i
                have s2 := take_w HCW.out i
                have s3 := HS.out
                have wz1 : IntKind.i64.wrap (S + x) = S + x := by rw [IntKind.wrap_i64]; omega
                have wz2 : IntKind.i64.wrap (S + x + y) = S + x + y := by rw [IntKind.wrap_i64]; omega
                have HS2 : Hid (S + x + y = (rows.take (i + 1)).sum + (cols.take (i + 1)).sum) := Lib.hid (by rw [take_sum hx, take_sum hy]; omega)
                have HX := Lib.hid hx
                have HX0 := Lib.hid hx0
                have HR1 := Lib.hid hr
                have HQ1 := Lib.hid hq
                have HRD := Lib.hid hrd
                have HQD := Lib.hid hqd
                have HC5 := Lib.hid hc
                have HD6 := Lib.hid hd
                have E1 := Lib.hid e1
                have E2 := Lib.hid e2
                have HRI := Lib.hid hrin
                have i1 : (i : Int) < (c.length : Int) := by omega
                have i0 : (0 : Int) ≤ (i : Int) := by omega
                clear s1 s2 s3 hx hy hr hq hrd hqd hc hd e1 e2 hrin hx0 hy0
                go_wp2_with fail
                go_quiet (skip)
                replace HW := Lib.hid (bl_drewN HW.out nq)
                clear hx1 hy1
                generalize wr.drewN nq = wq at HW ⊢
                go_wp2_with fail
                go_loopw [15] (fun vk wr => ∃ (k : Nat), vk = .int .i64 k ∧ k ≤ c.length ∧ Hid (Below w.heap.size w wr) ∧ Hid (fairB c no (rows) (cols) i k = true)) (fun vk _ => c.length - (intOf vk).toNat)
                case atStart => exact ⟨0, rfl, Nat.zero_le _, HW, HF⟩
                case round =>
                  clear HW HF
                  obtain ⟨k, rfl, hk, HW, HF⟩ := hrel
                  by_cases hkl : k < c.length
                  · obtain ⟨x3, hx3⟩ : ∃ x3, r[k]? = some x3 := ⟨_, List.getElem?_eq_getElem (by have := E1.out; omega)⟩
                    obtain ⟨s, hs⟩ : ∃ s, q[k]? = some s := ⟨_, List.getElem?_eq_getElem (by have := E2.out; omega)⟩
                    obtain ⟨z, hz⟩ : ∃ z, cols[k]? = some z := ⟨_, List.getElem?_eq_getElem (by have := HCN.out; omega)⟩
                    obtain ⟨b3, o3, rfl, hb3, hc3⟩ := HRD.out.get hx3
                    obtain ⟨b4, o4, rfl, hb4, hc4⟩ := HQD.out.get hs
                    obtain ⟨b7, o7, e7, hb7, hc7⟩ := HCC.out.get hz
                    injection e7 with e7
                    injection e7 with e7 e8
                    subst e7
                    subst e8
                    have z1 : -549755813888 ≤ z ∧ z ≤ 549755813888 := HCW.out z (List.mem_of_getElem? hz)
                    have wz3 : IntKind.i64.wrap (x + z) = x + z := by rw [IntKind.wrap_i64]; omega
                    have hx1 := (HW.out.cell (p := ⟨b, o + i, none⟩) (Nat.lt_of_lt_of_le hb bd)).trans HX0.out
                    have hx5 := (HW.out.cell (p := ⟨b5, o5 + i, none⟩) (Nat.lt_of_lt_of_le hb5 bd)).trans HC5.out
                    have hx6 := (HW.out.cell (p := ⟨b6, o6 + i, none⟩) (Nat.lt_of_lt_of_le hb6 bd)).trans HD6.out
                    have hx3' := (HW.out.cell (p := ⟨b3, o3 + k, none⟩) (Nat.lt_of_lt_of_le hb3 bd)).trans hc3
                    have hx4' := (HW.out.cell (p := ⟨b4, o4 + k, none⟩) (Nat.lt_of_lt_of_le hb4 bd)).trans hc4
                    have hx7' := (HW.out.cell (p := ⟨b2, o2 + k, none⟩) (Nat.lt_of_lt_of_le hb7 bd)).trans hc7
                    have HX3 := Lib.hid hx3
                    have HSS := Lib.hid hs
                    have HZ := Lib.hid hz
                    have kk1 : (k : Int) < (c.length : Int) := by omega
                    have kk0 : (0 : Int) ≤ (k : Int) := by omega
                    clear hx3 hs hz hc3 hc4 hc7
                    cases s
                    · by_cases hle : x3 < x + z
                      · have HN := Lib.hid (show ¬ BoundP c no rows cols from fun h => by
                          have := h.2.2.2.2.2 i k r q x3 x z (.inl hlt) HR1.out HQ1.out HX3.out HSS.out HX.out HZ.out
                          omega)
                        go_wp2_with fail
                        go_quiet (skip)
                        replace HW := Lib.hid (bl_drewN HW.out nq)
                        clear hx1 hx5 hx6 hx3' hx4' hx7'
                        generalize wr.drewN nq = wq at HW ⊢
                        go_wp2_with fail
                        refine bodyPost_ret (v := .tuple #[.int .i64 0, .bool false]) (by simp [results, Try.results15, go_sem]) rfl ⟨.inr ⟨HN.out, rfl⟩, HW.out⟩
                      · have HF2 : Hid (fairB c no rows cols i (k + 1) = true) := Lib.hid (by rw [fair_see HR1.out HQ1.out HX3.out HSS.out HX.out HZ.out, HF.out]; simp; omega)
                        go_wp2_with fail
                        go_quiet (skip)
                        replace HW := Lib.hid (bl_drewN HW.out nq)
                        clear hx1 hx5 hx6 hx3' hx4' hx7'
                        generalize wr.drewN nq = wq at HW ⊢
                        go_wp2_with fail
                        go_roundw
                        case rel => exact ⟨k + 1, by go_num, by omega, HW, HF2⟩
                        case measure => simp only [intOf]; omega
                    · have HF2 : Hid (fairB c no rows cols i (k + 1) = true) := Lib.hid (by rw [fair_skip HQ1.out HSS.out]; exact HF.out)
                      go_wp2_with fail
                      go_quiet (skip)
                      replace HW := Lib.hid (bl_drewN HW.out nq)
                      clear hx1 hx5 hx6 hx3' hx4' hx7'
                      generalize wr.drewN nq = wq at HW ⊢
                      go_wp2_with fail
                      go_roundw
                      case rel => exact ⟨k + 1, by go_num, by omega, HW, HF2⟩
                      case measure => simp only [intOf]; omega
                  · obtain rfl : k = c.length := by omega
                    clear hkl hk
                    have HF2 : Hid (fairB c no rows cols (i + 1) 0 = true) := Lib.hid (by rw [fair_next (fun r hr => (HP.out.2.2 i r hr).1)]; exact HF.out)
                    go_wp2_with fail
                    go_roundw
                    case rel => exact ⟨i + 1, S + x + y, by go_num, by simp only [wz1, wz2], by omega, HW, HS2, HF2⟩
                    case measure => simp only [intOf]; omega
              · obtain rfl : i = c.length := by omega
                have HSS : Hid (S = rows.sum + cols.sum) := Lib.hid (by rw [HS.out, List.take_of_length_le (by have := HRN.out; omega), List.take_of_length_le (by have := HCN.out; omega)])
                have HG := Lib.hid (show BoundP c no rows cols from ⟨HP.out, HRN.out, HCN.out, HRW.out, HCW.out, fairB_iff.1 HF.out⟩)
                clear hlt hi
                go_wp2_with fail
                refine bodyPost_ret (v := .tuple #[.int .i64 S, .bool true]) (by simp [results, Try.results15, go_sem]) rfl ⟨.inl ⟨HG.out, by rw [HSS.out]⟩, HW.out⟩
      · have HN := Lib.hid (show ¬ BoundP c no rows cols from fun h => hl2 (by have := h.2.2.1; rw [HCN.out] at this; exact this))
        have f1 : ((cn : Int) == (c.length : Int)) = false := by simp; omega
        have f2 : ¬ (cn : Int) = (c.length : Int) := by omega
        have f3 : (cn == c.length) = false := by simpa using hl2
        go_enter Try.func15, Try.ntmps15
        go_wp2_with fail
        (with_reducible refine HC.out.mono ?_); rintro e v1 ⟨rfl, hb1⟩
        go_wp2_with fail
        refine bodyPost_ret (v := .tuple #[.int .i64 0, .bool false]) (by simp [results, Try.results15, go_sem]) rfl ⟨.inr ⟨HN.out, rfl⟩, hb1⟩
    · have HN := Lib.hid (show ¬ BoundP c no rows cols from fun h => hl1 (by have := h.2.1; rw [HRN.out] at this; exact this))
      have f1 : ((rn : Int) == (c.length : Int)) = false := by simp; omega
      have f2 : ¬ (rn : Int) = (c.length : Int) := by omega
      have f3 : (rn == c.length) = false := by simpa using hl1
      go_enter Try.func15, Try.ntmps15
      go_wp2_with fail
      (with_reducible refine HC.out.mono ?_); rintro e v1 ⟨rfl, hb1⟩
      go_wp2_with fail
      refine bodyPost_ret (v := .tuple #[.int .i64 0, .bool false]) (by simp [results, Try.results15, go_sem]) rfl ⟨.inr ⟨HN.out, rfl⟩, hb1⟩
  · rw [chkB_f hP] at HC
    have HN := Lib.hid (show ¬ BoundP c no rows cols from fun h => hP h.1)
    clear hP
    go_enter Try.func15, Try.ntmps15
    go_wp2_with fail
    (with_reducible refine HC.out.mono ?_); rintro e v1 ⟨rfl, hb1⟩
    go_wp2_with fail
    refine bodyPost_ret (v := .tuple #[.int .i64 0, .bool false]) (by simp [results, Try.results15, go_sem]) rfl ⟨.inr ⟨HN.out, rfl⟩, hb1⟩
end Go.Proofs.Ytamfhommmogknaa
