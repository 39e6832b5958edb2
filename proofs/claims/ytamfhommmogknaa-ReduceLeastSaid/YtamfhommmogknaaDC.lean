/- Check of a table, and the document's. -/
import Derived.Test.YtamfhommmogknaaDB
namespace Go.Proofs.Ytamfhommmogknaa
open Go Go.RowKit
set_option linter.unusedVariables false
set_option linter.unusedSimpArgs false
set_option maxRecDepth 100000

def InM (x : Int) : Prop := -2147483648 ≤ x ∧ x ≤ 2147483648
def RowP (c : List (List Int)) (no : List (List Bool)) (i : Nat) (r : List Int) : Prop := r.length = c.length ∧ (∃ q, no[i]? = some q ∧ q.length = c.length) ∧ ∀ x ∈ r, InM x
theorem far_off {x : Int} (h : farB x 2147483648 = false) : InM x := by simp [farB] at h; exact ⟨by omega, by omega⟩
theorem far_on {x : Int} (h : farB x 2147483648 = true) : ¬ InM x := by simp [farB] at h; unfold InM; omega
theorem any_off {r : List Int} (h : (r.any fun x => farB x 2147483648) = false) : ∀ x ∈ r, InM x := fun x hx => far_off (by have := List.any_eq_false.1 h x hx; simpa using this)
theorem any_on {r : List Int} (h : (r.any fun x => farB x 2147483648) = true) : ¬ ∀ x ∈ r, InM x := fun hall => by
  obtain ⟨x, hx, h2⟩ := List.any_eq_true.1 h
  exact far_on h2 (hall x hx)
section
variable {c : List (List Int)} {no : List (List Bool)}
theorem chk_big (h : ¬ c.length ≤ 64) : chkB c no = false := chkB_f fun hp => h hp.1
theorem chk_len (h : ¬ no.length = c.length) : chkB c no = false := chkB_f fun hp => h hp.2.1
theorem chk_row {i : Nat} {r : List Int} (hr : c[i]? = some r) (h : ¬ RowP c no i r) : chkB c no = false := chkB_f fun hp => h (hp.2.2 i r hr)
theorem chk_all (h1 : c.length ≤ 64) (h2 : no.length = c.length) (h : ∀ (i : Nat) (r : List Int), i < c.length → c[i]? = some r → RowP c no i r) : chkB c no = true := chkB_t ⟨h1, h2, fun i r hr => h i r (List.getElem?_eq_some_iff.1 hr).1 hr⟩
end
set_option maxHeartbeats 6400000 in
theorem chk_any (c : List (List Int)) (no : List (List Bool)) (A1 A2 : Option Addr) (c1 c2 : Nat) (w : World) {B : Nat} (hI : TabAt w B c no A1 c1 A2 c2) : Calls Try.prog 10 #[.agg #[.slice A1 c.length c1, .slice A2 no.length c2]] w fun e w' => e = .returned (.bool (chkB c no)) ∧ Below w.heap.size w w' := by
  have HI := Lib.hid hI
  have N1 := hI.n1
  have N2 := hI.n2
  clear hI
  by_cases h1 : c.length ≤ 64
  · by_cases h2 : no.length = c.length
    · rw [h2]
      rw [h2] at N2
      have h64 : ¬ (64 : Int) < (c.length : Int) := by omega
      have h65 : ¬ 64 < c.length := by omega
      replace h2 := Lib.hid h2
      go_enter Try.func10, Try.ntmps10
      go_wp2_with fail
      have B0 : Blk (w.alloc (.cells #[.slice A1 c.length c1, .slice A2 c.length c2] 28)) w.heap.size 28 #[.slice A1 c.length c1, .slice A2 c.length c2] := Blk.new _ _ _
      have b0 : Below w.heap.size w (w.alloc (.cells #[.slice A1 c.length c1, .slice A2 c.length c2] 28)) := bl_alloc (Below.refl _ _) _
      generalize w.alloc (.cells #[.slice A1 c.length c1, .slice A2 c.length c2] 28) = w0 at B0 b0 ⊢
      go_loopw [21] (fun vi wr => ∃ (i : Nat), vi = .int .i64 i ∧ i ≤ c.length ∧ Hid (∀ (i' : Nat) (r : List Int), i' < i → c[i']? = some r → RowP c no i' r) ∧ Hid (Blk wr w.heap.size 28 #[.slice A1 c.length c1, .slice A2 c.length c2]) ∧ Hid (Below w.heap.size w wr)) (fun vi _ => c.length - (intOf vi).toNat)
      case atStart => exact ⟨0, rfl, Nat.zero_le _, Lib.hid (fun i' r h => absurd h (by omega)), Lib.hid B0, Lib.hid b0⟩
      case round =>
        clear B0 b0
        obtain ⟨i, rfl, hi, HA, HB, HW⟩ := hrel
        by_cases hlt : i < c.length
        · obtain ⟨r, hr⟩ : ∃ r, c[i]? = some r := ⟨_, List.getElem?_eq_getElem hlt⟩
          obtain ⟨q, hq⟩ : ∃ q, no[i]? = some q := ⟨_, List.getElem?_eq_getElem (by have := h2.out; omega)⟩
          obtain ⟨b, o, A', c', rfl, hb, hc, m1, m2, hrd⟩ := (HI.out.below HW.out).cost.get hr
          obtain ⟨b2, o2, Q', d', rfl, hb2, hd, k1, k2, hqd⟩ := (HI.out.below HW.out).no_.get hq
          have HR := Lib.hid hr
          have HQ := Lib.hid hq
          have HRD := Lib.hid hrd
          have bd := (HI.out.below HW.out).bd
          have i1 : (i : Int) < (c.length : Int) := by omega
          have i0 : (0 : Int) ≤ (i : Int) := by omega
          have i2 : (i : Int) < (no.length : Int) := by have := h2.out; omega
          clear hr hq hrd hqd
          have x_z : w.heap.size < wr.heap.size := HB.out.lt
          have x_c0 : wr.cell? ⟨w.heap.size, 0, none⟩ = some (.slice (some ⟨b, o, none⟩) c.length c1) := (HB.out.cell 0).trans rfl
          have x_f0 := HB.out.frozen 0
          have x_c1 : wr.cell? ⟨w.heap.size, 1, none⟩ = some (.slice (some ⟨b2, o2, none⟩) c.length c2) := (HB.out.cell 1).trans rfl
          have x_f1 := HB.out.frozen 1
          by_cases e1 : r.length = c.length
          · rw [e1] at hc m1
            by_cases e2 : q.length = c.length
            · rw [e2] at hd k1
              have HC := Lib.hid (fun w' (hb : Below wr.heap.size wr w') => hasC_any r A' c' w' (HRD.out.keep (Alike.of_below hb bd)) ⟨by omega, m2⟩ (by have := hb.size; omega))
              rw [e1] at HC
              replace e1 := Lib.hid e1
              replace e2 := Lib.hid e2
              have E1 := e1
              have E2 := e2
              obtain ⟨z, hz⟩ : ∃ z, (r.any fun x => farB x 2147483648) = z := ⟨_, rfl⟩
              rw [hz] at HC
              replace hz := Lib.hid hz
              cases z
              · go_wp2_with fail
                (with_reducible refine (HC.out _ (Below.refl _ _)).mono ?_); rintro e v1 ⟨rfl, hb1⟩
                go_wp2_with fail
                go_roundw
                case rel => exact ⟨i + 1, by go_num, by omega, Lib.hid (fun i' r' h3 h4 => by
                    by_cases h5 : i' < i
                    · exact HA.out i' r' h5 h4
                    · obtain rfl : i' = i := by omega
                      rw [HR.out] at h4
                      obtain rfl := Option.some.inj h4
                      exact ⟨E1.out, ⟨q, HQ.out, E2.out⟩, any_off hz.out⟩), Lib.hid (HB.out.below hb1), Lib.hid (bl_step HW.out hb1)⟩
                case measure => simp only [intOf]; omega
              · go_wp2_with fail
                (with_reducible refine (HC.out _ (Below.refl _ _)).mono ?_); rintro e v1 ⟨rfl, hb1⟩
                go_wp2
                go_ret
                exact ⟨by rw [chk_row HR.out (fun h => any_on hz.out h.2.2)]; rfl, bl_step HW.out hb1⟩
            · have f2 : ((q.length : Int) == (c.length : Int)) = false := by simp; omega
              have f2n : (q.length == c.length) = false := by simpa using e2
              have f3 : ¬ (q.length : Int) = (c.length : Int) := by omega
              replace e1 := Lib.hid e1
              have E2 := Lib.hid e2
              go_wp2
              go_ret
              exact ⟨by rw [chk_row HR.out (fun h => by obtain ⟨q', h1, h2⟩ := h.2.1; rw [HQ.out] at h1; obtain rfl := Option.some.inj h1; exact E2.out h2)]; rfl, HW.out⟩
          · have f1 : ((r.length : Int) == (c.length : Int)) = false := by simp; omega
            have f1n : (r.length == c.length) = false := by simpa using e1
            have f3 : ¬ (r.length : Int) = (c.length : Int) := by omega
            have E1 := Lib.hid e1
            go_wp2
            go_ret
            exact ⟨by rw [chk_row HR.out (fun h => E1.out h.1)]; rfl, HW.out⟩
        · obtain rfl : i = c.length := by omega
          have hh := chk_all h1 h2.out HA.out
          replace hh := Lib.hid hh
          clear hlt hi
          go_wp2
          go_ret
          exact ⟨by rw [hh.out]; rfl, HW.out⟩
    · rw [chk_len h2]
      have hl : ((no.length : Int) == (c.length : Int)) = false := by simp; omega
      have hln : (no.length == c.length) = false := by simpa using h2
      have f3 : ¬ (no.length : Int) = (c.length : Int) := by omega
      have h64 : ¬ (64 : Int) < (c.length : Int) := by omega
      have h65 : ¬ 64 < c.length := by omega
      go_enter Try.func10, Try.ntmps10
      go_wp2
      go_ret
      exact ⟨rfl, bl_alloc (Below.refl _ _) _⟩
  · rw [chk_big h1]
    have h64 : (64 : Int) < (c.length : Int) := by omega
    have h65 : 64 < c.length := by omega
    go_enter Try.func10, Try.ntmps10
    go_wp2
    go_ret
    exact ⟨rfl, bl_alloc (Below.refl _ _) _⟩
set_option maxHeartbeats 6400000 in
theorem rchk_any (c : List (List Int)) (no : List (List Bool)) (A1 A2 : Option Addr) (c1 c2 : Nat) (w : World) {B : Nat} (hI : TabAt w B c no A1 c1 A2 c2) : Calls Try.prog 11 #[.slice A1 c.length c1, .slice A2 no.length c2] w fun e w' => e = .returned (.bool (chkB c no)) ∧ Below w.heap.size w w' := by
  have HI := Lib.hid hI
  have N1 := hI.n1
  have N2 := hI.n2
  clear hI
  by_cases h1 : c.length ≤ 64
  · by_cases h2 : no.length = c.length
    · rw [h2]
      rw [h2] at N2
      have h64 : ¬ (64 : Int) < (c.length : Int) := by omega
      have h65 : ¬ 64 < c.length := by omega
      replace h2 := Lib.hid h2
      go_enter Try.func11, Try.ntmps11
      go_wp2_with fail
      go_loopw [6] (fun vi wr => ∃ (i : Nat), vi = .int .i64 i ∧ i ≤ c.length ∧ Hid (∀ (i' : Nat) (r : List Int), i' < i → c[i']? = some r → RowP c no i' r) ∧ Hid (Below w.heap.size w wr)) (fun vi _ => c.length - (intOf vi).toNat)
      case atStart => exact ⟨0, rfl, Nat.zero_le _, Lib.hid (fun i' r h => absurd h (by omega)), Lib.hid (Below.refl _ _)⟩
      case round =>
        obtain ⟨i, rfl, hi, HA, HW⟩ := hrel
        by_cases hlt : i < c.length
        · obtain ⟨r, hr⟩ : ∃ r, c[i]? = some r := ⟨_, List.getElem?_eq_getElem hlt⟩
          obtain ⟨q, hq⟩ : ∃ q, no[i]? = some q := ⟨_, List.getElem?_eq_getElem (by have := h2.out; omega)⟩
          obtain ⟨b, o, A', c', rfl, hb, hc, m1, m2, hrd⟩ := (HI.out.below HW.out).cost.get hr
          obtain ⟨b2, o2, Q', d', rfl, hb2, hd, k1, k2, hqd⟩ := (HI.out.below HW.out).no_.get hq
          have HR := Lib.hid hr
          have HQ := Lib.hid hq
          have HRD := Lib.hid hrd
          have i1 : (i : Int) < (c.length : Int) := by omega
          have i0 : (0 : Int) ≤ (i : Int) := by omega
          have i2 : (i : Int) < (no.length : Int) := by have := h2.out; omega
          clear hr hq hrd hqd
          by_cases e1 : r.length = c.length
          · rw [e1] at hc m1
            by_cases e2 : q.length = c.length
            · rw [e2] at hd k1
              replace e1 := Lib.hid e1
              replace e2 := Lib.hid e2
              have E1 := e1
              have E2 := e2
              have HCC := Lib.hid hc
              go_wp2_with fail
              generalize wr = wo at HRD HCC HW ⊢
              clear hc hd
              go_loopw [7] (fun vk wr => ∃ (k : Nat), vk = .int .i64 k ∧ k ≤ c.length ∧ Hid (∀ (k' : Nat) (x : Int), k' < k → r[k']? = some x → InM x) ∧ Hid (Below wo.heap.size wo wr)) (fun vk _ => c.length - (intOf vk).toNat)
              case atStart => exact ⟨0, rfl, Nat.zero_le _, Lib.hid (fun i' r h => absurd h (by omega)), Lib.hid (Below.refl _ _)⟩
              case round =>
                obtain ⟨k, rfl, hk, HK, HV⟩ := hrel
                by_cases hkl : k < c.length
                · obtain ⟨x, hx⟩ : ∃ x, r[k]? = some x := ⟨_, List.getElem?_eq_getElem (by have := E1.out; omega)⟩
                  have bw := (HI.out.below HW.out).bd
                  have hc := (HV.out.cell (p := ⟨b, o + i, none⟩) (Nat.lt_of_lt_of_le hb bw)).trans HCC.out
                  obtain ⟨b3, o3, rfl, hb3, hcx⟩ := (HRD.out.keep (Alike.of_below HV.out bw)).get hx
                  have HX := Lib.hid hx
                  have k1' : (k : Int) < (r.length : Int) := by have := E1.out; omega
                  have k0 : (0 : Int) ≤ (k : Int) := by omega
                  have k3 : (k : Int) < (c.length : Int) := by omega
                  clear hx
                  by_cases l1 : x < -2147483648
                  · go_wp2
                    go_ret
                    exact ⟨by rw [chk_row HR.out (fun h => by have := h.2.2 x (List.mem_of_getElem? HX.out); unfold InM at this; omega)]; rfl, bl_step HW.out HV.out⟩
                  · by_cases l2 : 2147483648 < x
                    · go_wp2
                      go_ret
                      exact ⟨by rw [chk_row HR.out (fun h => by have := h.2.2 x (List.mem_of_getElem? HX.out); unfold InM at this; omega)]; rfl, bl_step HW.out HV.out⟩
                    · go_wp2_with fail
                      go_roundw
                      case rel => exact ⟨k + 1, by go_num, by omega, Lib.hid (fun k' y h3 h4 => by
                          by_cases h5 : k' < k
                          · exact HK.out k' y h5 h4
                          · obtain rfl : k' = k := by omega
                            rw [HX.out] at h4
                            obtain rfl := Option.some.inj h4
                            exact ⟨by omega, by omega⟩), HV⟩
                      case measure => simp only [intOf]; omega
                · obtain rfl : k = c.length := by omega
                  clear hkl hk
                  go_wp2_with fail
                  go_roundw
                  case rel => exact ⟨i + 1, by go_num, by omega, Lib.hid (fun i' r' h3 h4 => by
                      by_cases h5 : i' < i
                      · exact HA.out i' r' h5 h4
                      · obtain rfl : i' = i := by omega
                        rw [HR.out] at h4
                        obtain rfl := Option.some.inj h4
                        refine ⟨E1.out, ⟨q, HQ.out, E2.out⟩, fun x hx => ?_⟩
                        obtain ⟨k, hk, rfl⟩ := List.getElem_of_mem hx
                        exact HK.out k _ (by have := E1.out; omega) (List.getElem?_eq_getElem hk)), Lib.hid (bl_step HW.out HV.out)⟩
                  case measure => simp only [intOf]; omega
            · have f2 : ((q.length : Int) == (c.length : Int)) = false := by simp; omega
              have f2n : (q.length == c.length) = false := by simpa using e2
              have f3 : ¬ (q.length : Int) = (c.length : Int) := by omega
              replace e1 := Lib.hid e1
              have E2 := Lib.hid e2
              go_wp2
              go_ret
              exact ⟨by rw [chk_row HR.out (fun h => by obtain ⟨q', h1, h2⟩ := h.2.1; rw [HQ.out] at h1; obtain rfl := Option.some.inj h1; exact E2.out h2)]; rfl, HW.out⟩
          · have f1 : ((r.length : Int) == (c.length : Int)) = false := by simp; omega
            have f1n : (r.length == c.length) = false := by simpa using e1
            have f3 : ¬ (r.length : Int) = (c.length : Int) := by omega
            have E1 := Lib.hid e1
            go_wp2
            go_ret
            exact ⟨by rw [chk_row HR.out (fun h => E1.out h.1)]; rfl, HW.out⟩
        · obtain rfl : i = c.length := by omega
          have hh := chk_all h1 h2.out HA.out
          replace hh := Lib.hid hh
          clear hlt hi
          go_wp2
          go_ret
          exact ⟨by rw [hh.out]; rfl, HW.out⟩
    · rw [chk_len h2]
      have hl : ((no.length : Int) == (c.length : Int)) = false := by simp; omega
      have hln : (no.length == c.length) = false := by simpa using h2
      have f3 : ¬ (no.length : Int) = (c.length : Int) := by omega
      have h64 : ¬ (64 : Int) < (c.length : Int) := by omega
      have h65 : ¬ 64 < c.length := by omega
      go_enter Try.func11, Try.ntmps11
      go_wp2
      go_ret
      exact ⟨rfl, Below.refl _ _⟩
  · rw [chk_big h1]
    have h64 : (64 : Int) < (c.length : Int) := by omega
    have h65 : 64 < c.length := by omega
    go_enter Try.func11, Try.ntmps11
    go_wp2
    go_ret
    exact ⟨rfl, Below.refl _ _⟩
end Go.Proofs.Ytamfhommmogknaa
