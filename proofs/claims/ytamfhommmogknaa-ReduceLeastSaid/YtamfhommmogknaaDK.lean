/- The walk of the document's prices. -/
import Derived.Test.YtamfhommmogknaaDJ
namespace Go.Proofs.Ytamfhommmogknaa
open Go Go.RowKit
set_option linter.unusedVariables false
set_option linter.unusedSimpArgs false
set_option maxRecDepth 100000

theorem own_cell1 {w : World} {base g n d : Nat} {e : TypeId} {l : List Int} (h : w.ownsRow base e 1 (.slice (some ⟨g, 0, none⟩) n d) n (l.map (Value.int .i64))) {j : Nat} {x : Int} (hj : j < n) (hx : l[j]? = some x) : w.cell? ⟨g, j, none⟩ = some (.int .i64 x) ∧ w.frozen? ⟨g, j, none⟩ = false ∧ base ≤ g ∧ g < w.heap.size := by
  obtain ⟨g', eg, h1, h2, h3, h4⟩ := own_lt h (by omega)
  simp at eg
  subst eg
  exact ⟨h3 j _ (by rw [List.getElem?_map, hx]; rfl), h4 j, h1, h2⟩
theorem own_some_lt {w : World} {base g n d s : Nat} {e : TypeId} {xs : List Value} (h : w.ownsRow base e s (.slice (some ⟨g, 0, none⟩) n d) n xs) : g < w.heap.size := by
  rcases h.2 with ⟨e1, _⟩ | ⟨g1, cap, cur, e1, _, hh, _⟩
  · cases e1
  · injection e1 with e2
    injection e2 with e2
    injection e2 with e3
    subst e3
    exact (Array.getElem?_eq_some_iff.1 hh).1
/-- The two rows that are handed back lie apart. -/
def ApartR (e : Ending) : Prop := ∀ (U V : Option Addr) (n m u v : Nat) (ok : Value), e = .returned (.tuple #[.slice U n u, .slice V m v, ok]) → (∃ g, U = some ⟨g, 0, none⟩ ∧ ∃ g', V = some ⟨g', 0, none⟩ ∧ g ≠ g') ∨ (U = none ∧ V = none)
theorem apart_no {ok : Value} : ApartR (.returned (.tuple #[.slice none 0 0, .slice none 0 0, ok])) := fun U V n m u v ok' h => by
  simp only [Ending.returned.injEq, Value.tuple.injEq, Array.mk.injEq, List.cons.injEq, Value.slice.injEq] at h
  exact .inr ⟨h.1.1.symm, h.2.1.1.symm⟩
theorem apart_of {ok : Value} {g g' n m u v : Nat} (hne : g ≠ g') : ApartR (.returned (.tuple #[.slice (some ⟨g, 0, none⟩) n u, .slice (some ⟨g', 0, none⟩) m v, ok])) := fun U V n m u v ok' h => by
  simp only [Ending.returned.injEq, Value.tuple.injEq, Array.mk.injEq, List.cons.injEq, Value.slice.injEq] at h
  exact .inl ⟨g, h.1.1.symm, g', h.2.1.1.symm, hne⟩
set_option maxHeartbeats 12800000 in
theorem rprices2_any (c : List (List Int)) (no : List (List Bool)) (A1 A2 : Option Addr) (c1 c2 : Nat) (w : World) {B : Nat} (hI : TabAt w B c no A1 c1 A2 c2) :
    Calls Try.prog 9 #[.slice A1 c.length c1, .slice A2 no.length c2] w fun e w' => PricesPost w c no e w' ∧ ApartR e := by
  have HI := Lib.hid hI
  have HC := Lib.hid (rchk_any c no A1 A2 c1 c2 w hI)
  have N1 := hI.n1
  have N2 := hI.n2
  have bd := hI.bd
  clear hI
  by_cases hP : ChkP c no
  · rw [chkB_t hP] at HC
    rw [hP.2.1] at HC N2 ⊢
    have h64 := hP.1
    have hn70 : c.length ≤ 70 := by omega
    have HP := Lib.hid hP
    clear hP
    go_enter Try.func9, Try.ntmps9
    go_wp2_with fail
    (with_reducible refine HC.out.mono ?_); rintro e v1 ⟨rfl, hb1⟩
    go_wp2_with (first | (refine make_row rfl (.tmp 24) rfl rfl hn70 ?_; intro v2 hA hb2; have hs2 := hb2.size) | (refine make_row rfl (.tmp 26) rfl rfl hn70 ?_; intro v3 hB hb3))
    have bA : w.heap.size ≤ v1.heap.size := hb1.size
    have bB : w.heap.size ≤ v2.heap.size := by have := hb2.size; omega
    have HA := Lib.hid (own_below (own_more hA bA) hb3)
    have HB := Lib.hid (own_more hB bB)
    have hab : v1.heap.size < v2.heap.size := own_some_lt hA
    have b3 := Lib.hid (bl_step (bl_step hb1 hb2) hb3)
    clear hA hB hb1 hb2 hb3 HC
    generalize v1.heap.size = ga at HA hab bA ⊢
    generalize v2.heap.size = gb at HB hab bB ⊢
    go_loopw [11] (fun vi wr => ∃ (i : Nat), vi = .int .i64 i ∧ i ≤ c.length ∧ Hid (Below w.heap.size w wr) ∧ Hid (wr.ownsRow w.heap.size 2 1 (.slice (some ⟨ga, 0, none⟩) c.length c.length) c.length ((numG (rowAt c no) c.length i 0).map (Value.int .i64))) ∧ Hid (wr.ownsRow w.heap.size 2 1 (.slice (some ⟨gb, 0, none⟩) c.length c.length) c.length ((List.replicate c.length 0).map (Value.int .i64))) ∧ Hid (∀ j, j < i → (rowAt c no j c.length).2 = true)) (fun vi _ => c.length - (intOf vi).toNat)
    case atStart => exact ⟨0, rfl, Nat.zero_le _, b3, Lib.hid (by rw [numG_start rowAt_zero]; exact HA.out), HB, Lib.hid (fun j h => absurd h (by omega))⟩
    case round =>
      clear b3 HA HB
      obtain ⟨i, rfl, hi, HW, HA, HB, HS⟩ := hrel
      by_cases hlt : i < c.length
      · obtain ⟨r, hr⟩ : ∃ r, c[i]? = some r := ⟨_, List.getElem?_eq_getElem hlt⟩
        obtain ⟨e1, ⟨q, hq, e2⟩, _⟩ := HP.out.2.2 i r hr
        obtain ⟨b, o, A', c', rfl, hb, hc, m1, m2, hrd⟩ := HI.out.cost.get hr
        obtain ⟨b2, o2, Q', d', rfl, hb2, hd, k1, k2, hqd⟩ := HI.out.no_.get hq
        rw [e1] at hc m1
        rw [e2] at hd k1
        have HR := Lib.hid hr
        have HQ := Lib.hid hq
        have HRD := Lib.hid hrd
        have HQD := Lib.hid hqd
        have HCC := Lib.hid hc
        have HD := Lib.hid hd
        have E1 := Lib.hid e1
        have E2 := Lib.hid e2
        have i1 : (i : Int) < (c.length : Int) := by omega
        have i0 : (0 : Int) ≤ (i : Int) := by omega
        clear hr hq hrd hqd hc hd e1 e2
        go_wp2_with fail
        go_loopw [12, 13] (fun vs vk wr => ∃ (k : Nat), vk = .int .i64 k ∧ vs = .bool (rowAt c no i k).2 ∧ k ≤ c.length ∧ Hid (Below w.heap.size w wr) ∧ Hid (wr.ownsRow w.heap.size 2 1 (.slice (some ⟨ga, 0, none⟩) c.length c.length) c.length ((numG (rowAt c no) c.length i k).map (Value.int .i64))) ∧ Hid (wr.ownsRow w.heap.size 2 1 (.slice (some ⟨gb, 0, none⟩) c.length c.length) c.length ((List.replicate c.length 0).map (Value.int .i64)))) (fun _ vk _ => c.length - (intOf vk).toNat)
        case atStart => exact ⟨0, rfl, rfl, Nat.zero_le _, HW, HA, HB⟩
        case round =>
          clear HW HA HB
          obtain ⟨k, rfl, rfl, hk, HW, HA, HB⟩ := hrel
          by_cases hkl : k < c.length
          · obtain ⟨x, hx⟩ : ∃ x, r[k]? = some x := ⟨_, List.getElem?_eq_getElem (by have := E1.out; omega)⟩
            obtain ⟨s, hs⟩ : ∃ s, q[k]? = some s := ⟨_, List.getElem?_eq_getElem (by have := E2.out; omega)⟩
            obtain ⟨b3, o3, rfl, hb3, hx3⟩ := HRD.out.get hx
            obtain ⟨b4, o4, rfl, hb4, hx4⟩ := HQD.out.get hs
            have HX := Lib.hid hx
            have HSS := Lib.hid hs
            have HX3 := Lib.hid hx3
            have HX4 := Lib.hid hx4
            have kk1 : (k : Int) < (c.length : Int) := by omega
            have kk0 : (0 : Int) ≤ (k : Int) := by omega
            obtain ⟨a, f, hp⟩ : ∃ a f, rowAt c no i k = (a, f) := ⟨_, _, rfl⟩
            have HPP := Lib.hid hp
            have HA2 := Lib.hid (own_cell1 HA.out hlt (numG_get hlt))
            rw [hp] at HA2
            simp only [hp]
            clear hx hs hx3 hx4 hp
            cases s
            · cases f
              · have HN : Hid (rowAt c no i (k + 1) = (x, true)) := Lib.hid (by rw [rowAt_see HR.out HQ.out HX.out HSS.out, HPP.out]; exact see_new rfl)
                have hcw1 := (HW.out.cell (p := ⟨b, o + i, none⟩) (Nat.lt_of_lt_of_le hb bd)).trans HCC.out
                have hdw1 := (HW.out.cell (p := ⟨b2, o2 + i, none⟩) (Nat.lt_of_lt_of_le hb2 bd)).trans HD.out
                have hx31 := (HW.out.cell (p := ⟨b3, o3 + k, none⟩) (Nat.lt_of_lt_of_le hb3 bd)).trans HX3.out
                have hx41 := (HW.out.cell (p := ⟨b4, o4 + k, none⟩) (Nat.lt_of_lt_of_le hb4 bd)).trans HX4.out
                obtain ⟨ra1, rf1, rb1, rs1⟩ := HA2.out
                go_wp2_with fail
                go_quiet (skip)
                replace HW := Lib.hid (bl_drewN HW.out nq)
                replace HA := Lib.hid (own_below HA.out (bl_drewN (Below.refl _ _) nq))
                replace HB := Lib.hid (own_below HB.out (bl_drewN (Below.refl _ _) nq))
                have HA3 := own_cell1 HA.out hlt (numG_get hlt)
                rw [HPP.out] at HA3
                clear hcw1 hdw1 hx31 hx41 ra1 rf1 rb1 rs1
                generalize wr.drewN nq = wq at HW HA HB HA3 ⊢
                have hcw2 := (HW.out.cell (p := ⟨b, o + i, none⟩) (Nat.lt_of_lt_of_le hb bd)).trans HCC.out
                have hdw2 := (HW.out.cell (p := ⟨b2, o2 + i, none⟩) (Nat.lt_of_lt_of_le hb2 bd)).trans HD.out
                have hx32 := (HW.out.cell (p := ⟨b3, o3 + k, none⟩) (Nat.lt_of_lt_of_le hb3 bd)).trans HX3.out
                have hx42 := (HW.out.cell (p := ⟨b4, o4 + k, none⟩) (Nat.lt_of_lt_of_le hb4 bd)).trans HX4.out
                obtain ⟨ra2, rf2, rb2, rs2⟩ := HA3
                have HST := Lib.hid (own_store HA.out i (by omega) (.int .i64 x))
                have HBF := Lib.hid (own_far HB.out (p := ⟨ga, i, none⟩) (fun e => by simp [Value.ownBlock] at e; omega) (.int .i64 x))
                have HWS := Lib.hid (bl_set HW.out (p := ⟨ga, i, none⟩) rb2 (.int .i64 x))
                go_wp2_with fail
                go_roundw
                case rel => exact ⟨k + 1, by go_num, by rw [HN.out], by omega, HWS, Lib.hid (by rw [numG_step hlt, HN.out, List.map_set]; exact HST.out), HBF⟩
                case measure => simp only [intOf]; omega
              · by_cases hxa : x < a
                · have HN : Hid (rowAt c no i (k + 1) = (x, true)) := Lib.hid (by rw [rowAt_see HR.out HQ.out HX.out HSS.out, HPP.out]; exact see_less rfl hxa)
                  have hcw1 := (HW.out.cell (p := ⟨b, o + i, none⟩) (Nat.lt_of_lt_of_le hb bd)).trans HCC.out
                  have hdw1 := (HW.out.cell (p := ⟨b2, o2 + i, none⟩) (Nat.lt_of_lt_of_le hb2 bd)).trans HD.out
                  have hx31 := (HW.out.cell (p := ⟨b3, o3 + k, none⟩) (Nat.lt_of_lt_of_le hb3 bd)).trans HX3.out
                  have hx41 := (HW.out.cell (p := ⟨b4, o4 + k, none⟩) (Nat.lt_of_lt_of_le hb4 bd)).trans HX4.out
                  obtain ⟨ra1, rf1, rb1, rs1⟩ := HA2.out
                  go_wp2_with fail
                  go_quiet (skip)
                  replace HW := Lib.hid (bl_drewN HW.out nq)
                  replace HA := Lib.hid (own_below HA.out (bl_drewN (Below.refl _ _) nq))
                  replace HB := Lib.hid (own_below HB.out (bl_drewN (Below.refl _ _) nq))
                  have HA3 := own_cell1 HA.out hlt (numG_get hlt)
                  rw [HPP.out] at HA3
                  clear hcw1 hdw1 hx31 hx41 ra1 rf1 rb1 rs1
                  generalize wr.drewN nq = wq at HW HA HB HA3 ⊢
                  have hcw2 := (HW.out.cell (p := ⟨b, o + i, none⟩) (Nat.lt_of_lt_of_le hb bd)).trans HCC.out
                  have hdw2 := (HW.out.cell (p := ⟨b2, o2 + i, none⟩) (Nat.lt_of_lt_of_le hb2 bd)).trans HD.out
                  have hx32 := (HW.out.cell (p := ⟨b3, o3 + k, none⟩) (Nat.lt_of_lt_of_le hb3 bd)).trans HX3.out
                  have hx42 := (HW.out.cell (p := ⟨b4, o4 + k, none⟩) (Nat.lt_of_lt_of_le hb4 bd)).trans HX4.out
                  obtain ⟨ra2, rf2, rb2, rs2⟩ := HA3
                  have HST := Lib.hid (own_store HA.out i (by omega) (.int .i64 x))
                  have HBF := Lib.hid (own_far HB.out (p := ⟨ga, i, none⟩) (fun e => by simp [Value.ownBlock] at e; omega) (.int .i64 x))
                  have HWS := Lib.hid (bl_set HW.out (p := ⟨ga, i, none⟩) rb2 (.int .i64 x))
                  go_wp2_with fail
                  go_roundw
                  case rel => exact ⟨k + 1, by go_num, by rw [HN.out], by omega, HWS, Lib.hid (by rw [numG_step hlt, HN.out, List.map_set]; exact HST.out), HBF⟩
                  case measure => simp only [intOf]; omega
                · have HN : Hid (rowAt c no i (k + 1) = (a, true)) := Lib.hid (by rw [rowAt_see HR.out HQ.out HX.out HSS.out, HPP.out]; exact see_old rfl hxa)
                  have hcw1 := (HW.out.cell (p := ⟨b, o + i, none⟩) (Nat.lt_of_lt_of_le hb bd)).trans HCC.out
                  have hdw1 := (HW.out.cell (p := ⟨b2, o2 + i, none⟩) (Nat.lt_of_lt_of_le hb2 bd)).trans HD.out
                  have hx31 := (HW.out.cell (p := ⟨b3, o3 + k, none⟩) (Nat.lt_of_lt_of_le hb3 bd)).trans HX3.out
                  have hx41 := (HW.out.cell (p := ⟨b4, o4 + k, none⟩) (Nat.lt_of_lt_of_le hb4 bd)).trans HX4.out
                  obtain ⟨ra1, rf1, rb1, rs1⟩ := HA2.out
                  go_wp2_with fail
                  go_quiet (skip)
                  replace HW := Lib.hid (bl_drewN HW.out nq)
                  replace HA := Lib.hid (own_below HA.out (bl_drewN (Below.refl _ _) nq))
                  replace HB := Lib.hid (own_below HB.out (bl_drewN (Below.refl _ _) nq))
                  have HA3 := own_cell1 HA.out hlt (numG_get hlt)
                  rw [HPP.out] at HA3
                  clear hcw1 hdw1 hx31 hx41 ra1 rf1 rb1 rs1
                  generalize wr.drewN nq = wq at HW HA HB HA3 ⊢
                  go_wp2_with fail
                  go_roundw
                  case rel => exact ⟨k + 1, by go_num, by rw [HN.out], by omega, HW, Lib.hid (by rw [numG_same hlt (by rw [HN.out, HPP.out])]; exact HA.out), HB⟩
                  case measure => simp only [intOf]; omega
            · have HN : Hid (rowAt c no i (k + 1) = (a, f)) := Lib.hid (by rw [rowAt_skip HQ.out HSS.out, HPP.out])
              have hcw1 := (HW.out.cell (p := ⟨b, o + i, none⟩) (Nat.lt_of_lt_of_le hb bd)).trans HCC.out
              have hdw1 := (HW.out.cell (p := ⟨b2, o2 + i, none⟩) (Nat.lt_of_lt_of_le hb2 bd)).trans HD.out
              have hx31 := (HW.out.cell (p := ⟨b3, o3 + k, none⟩) (Nat.lt_of_lt_of_le hb3 bd)).trans HX3.out
              have hx41 := (HW.out.cell (p := ⟨b4, o4 + k, none⟩) (Nat.lt_of_lt_of_le hb4 bd)).trans HX4.out
              obtain ⟨ra1, rf1, rb1, rs1⟩ := HA2.out
              go_wp2_with fail
              go_quiet (skip)
              replace HW := Lib.hid (bl_drewN HW.out nq)
              replace HA := Lib.hid (own_below HA.out (bl_drewN (Below.refl _ _) nq))
              replace HB := Lib.hid (own_below HB.out (bl_drewN (Below.refl _ _) nq))
              have HA3 := own_cell1 HA.out hlt (numG_get hlt)
              rw [HPP.out] at HA3
              clear hcw1 hdw1 hx31 hx41 ra1 rf1 rb1 rs1
              generalize wr.drewN nq = wq at HW HA HB HA3 ⊢
              go_wp2_with fail
              go_roundw
              case rel => exact ⟨k + 1, by go_num, by rw [HN.out], by omega, HW, Lib.hid (by rw [numG_same hlt (by rw [HN.out, HPP.out])]; exact HA.out), HB⟩
              case measure => simp only [intOf]; omega
          · obtain rfl : k = c.length := by omega
            clear hkl hk
            obtain ⟨a, f, hp⟩ : ∃ a f, rowAt c no i c.length = (a, f) := ⟨_, _, rfl⟩
            simp only [hp]
            cases f
            · have HN := Lib.hid (show ¬ GoodP c no from fun h => by have := h.2.1 _ (rowL_at hlt); rw [hp] at this; cases this)
              clear hp
              go_wp2_with fail
              refine bodyPost_ret (v := .tuple #[.slice none 0 0, .slice none 0 0, .bool false]) (by simp [results, Try.results9, go_sem]) rfl ⟨⟨.inr ⟨HN.out, rfl⟩, HW.out⟩, apart_no⟩
            · have HS2 : Hid (∀ j, j < i + 1 → (rowAt c no j c.length).2 = true) := Lib.hid (fun j hj => by
                by_cases h : j < i
                · exact HS.out j h
                · obtain rfl : j = i := by omega
                  rw [hp])
              clear hp
              go_wp2_with fail
              go_roundw
              case rel => exact ⟨i + 1, by go_num, by omega, HW, Lib.hid (by rw [← numG_next rowAt_zero]; exact HA.out), HB, HS2⟩
              case measure => simp only [intOf]; omega
      · obtain rfl : i = c.length := by omega
        clear hlt hi
        have HRN := Lib.hid (show wr.ownsRow w.heap.size 2 1 (.slice (some ⟨ga, 0, none⟩) c.length c.length) c.length ((rowN c no).map (Value.int .i64)) from HA.out)
        have HRA := Lib.hid (rowL_all HS.out)
        clear HA HS
        go_wp2_with fail
        go_loopw [14] (fun vk wr => ∃ (k : Nat), vk = .int .i64 k ∧ k ≤ c.length ∧ Hid (Below w.heap.size w wr) ∧ Hid (wr.ownsRow w.heap.size 2 1 (.slice (some ⟨ga, 0, none⟩) c.length c.length) c.length ((rowN c no).map (Value.int .i64))) ∧ Hid (wr.ownsRow w.heap.size 2 1 (.slice (some ⟨gb, 0, none⟩) c.length c.length) c.length ((numG (lineC c no (rowN c no)) c.length k 0).map (Value.int .i64))) ∧ Hid (∀ j, j < k → (lineC c no (rowN c no) j c.length).2 = true)) (fun vk _ => c.length - (intOf vk).toNat)
        case atStart => exact ⟨0, rfl, Nat.zero_le _, HW, HRN, Lib.hid (by rw [numG_start lineC_zero]; exact HB.out), Lib.hid (fun j h => absurd h (by omega))⟩
        case round =>
          clear HW HRN HB
          obtain ⟨k, rfl, hk, HW, HA, HB, HS⟩ := hrel
          by_cases hkl : k < c.length
          · have kk1 : (k : Int) < (c.length : Int) := by omega
            have kk0 : (0 : Int) ≤ (k : Int) := by omega
            go_wp2_with fail
            go_loopw [15, 16] (fun vs vi wr => ∃ (i : Nat), vi = .int .i64 i ∧ vs = .bool (lineC c no (rowN c no) k i).2 ∧ i ≤ c.length ∧ Hid (Below w.heap.size w wr) ∧ Hid (wr.ownsRow w.heap.size 2 1 (.slice (some ⟨ga, 0, none⟩) c.length c.length) c.length ((rowN c no).map (Value.int .i64))) ∧ Hid (wr.ownsRow w.heap.size 2 1 (.slice (some ⟨gb, 0, none⟩) c.length c.length) c.length ((numG (lineC c no (rowN c no)) c.length k i).map (Value.int .i64)))) (fun _ vi _ => c.length - (intOf vi).toNat)
            case atStart => exact ⟨0, rfl, rfl, Nat.zero_le _, HW, HA, HB⟩
            case round =>
              clear HW HA HB
              obtain ⟨i, rfl, rfl, hi, HW, HA, HB⟩ := hrel
              by_cases hlt : i < c.length
              · obtain ⟨r, hr⟩ : ∃ r, c[i]? = some r := ⟨_, List.getElem?_eq_getElem hlt⟩
                obtain ⟨e1, ⟨q, hq, e2⟩, hrin⟩ := HP.out.2.2 i r hr
                obtain ⟨b, o, A', c', rfl, hb, hc, m1, m2, hrd⟩ := HI.out.cost.get hr
                obtain ⟨b2, o2, Q', d', rfl, hb2, hd, k1, k2, hqd⟩ := HI.out.no_.get hq
                obtain ⟨x, hx⟩ : ∃ x, r[k]? = some x := ⟨_, List.getElem?_eq_getElem (by omega)⟩
                obtain ⟨s, hs⟩ : ∃ s, q[k]? = some s := ⟨_, List.getElem?_eq_getElem (by omega)⟩
                obtain ⟨y, hy⟩ : ∃ y, (rowN c no)[i]? = some y := ⟨_, List.getElem?_eq_getElem (by rw [rowN_len]; exact hlt)⟩
                obtain ⟨x1, x2⟩ := hrin x (List.mem_of_getElem? hx)
                obtain ⟨y1, y2⟩ := rowN_in HP.out y (List.mem_of_getElem? hy)
                have wz : IntKind.i64.wrap (x - y) = x - y := by rw [IntKind.wrap_i64]; omega
                rw [e1] at hc m1
                rw [e2] at hd k1
                obtain ⟨b3, o3, rfl, hb3, hx3⟩ := hrd.get hx
                obtain ⟨b4, o4, rfl, hb4, hx4⟩ := hqd.get hs
                have HR := Lib.hid hr
                have HQ := Lib.hid hq
                have HCC := Lib.hid hc
                have HD := Lib.hid hd
                have HX := Lib.hid hx
                have HSS := Lib.hid hs
                have HX3 := Lib.hid hx3
                have HX4 := Lib.hid hx4
                have HY := Lib.hid hy
                have i1 : (i : Int) < (c.length : Int) := by omega
                have i0 : (0 : Int) ≤ (i : Int) := by omega
                obtain ⟨a, f, hp⟩ : ∃ a f, lineC c no (rowN c no) k i = (a, f) := ⟨_, _, rfl⟩
                have HPP := Lib.hid hp
                have HA2 := Lib.hid (own_cell1 HA.out hlt hy)
                have HB2 := Lib.hid (own_cell1 HB.out hkl (numG_get hkl))
                rw [hp] at HB2
                simp only [hp]
                clear hx hs hx3 hx4 hp hr hq hrd hqd hc hd e1 e2 hy hrin
                cases s
                · cases f
                  · have HN : Hid (lineC c no (rowN c no) k (i + 1) = (x - y, true)) := Lib.hid (by rw [lineC_see HR.out HQ.out HX.out HSS.out HY.out, HPP.out]; exact see_new rfl)
                    have hcw1 := (HW.out.cell (p := ⟨b, o + i, none⟩) (Nat.lt_of_lt_of_le hb bd)).trans HCC.out
                    have hdw1 := (HW.out.cell (p := ⟨b2, o2 + i, none⟩) (Nat.lt_of_lt_of_le hb2 bd)).trans HD.out
                    have hx31 := (HW.out.cell (p := ⟨b3, o3 + k, none⟩) (Nat.lt_of_lt_of_le hb3 bd)).trans HX3.out
                    have hx41 := (HW.out.cell (p := ⟨b4, o4 + k, none⟩) (Nat.lt_of_lt_of_le hb4 bd)).trans HX4.out
                    obtain ⟨ra1, rf1, rb1, rs1⟩ := HA2.out
                    obtain ⟨ca1, cf1, cb1, cs1⟩ := HB2.out
                    go_wp2_with fail
                    go_quiet (skip)
                    replace HW := Lib.hid (bl_drewN HW.out nq)
                    replace HA := Lib.hid (own_below HA.out (bl_drewN (Below.refl _ _) nq))
                    replace HB := Lib.hid (own_below HB.out (bl_drewN (Below.refl _ _) nq))
                    have HA3 := own_cell1 HA.out hlt HY.out
                    have HB3 := own_cell1 HB.out hkl (numG_get hkl)
                    rw [HPP.out] at HB3
                    clear hcw1 hdw1 hx31 hx41 ra1 rf1 rb1 rs1 ca1 cf1 cb1 cs1
                    generalize wr.drewN nq = wq at HW HA HB HA3 HB3 ⊢
                    have hcw2 := (HW.out.cell (p := ⟨b, o + i, none⟩) (Nat.lt_of_lt_of_le hb bd)).trans HCC.out
                    have hdw2 := (HW.out.cell (p := ⟨b2, o2 + i, none⟩) (Nat.lt_of_lt_of_le hb2 bd)).trans HD.out
                    have hx32 := (HW.out.cell (p := ⟨b3, o3 + k, none⟩) (Nat.lt_of_lt_of_le hb3 bd)).trans HX3.out
                    have hx42 := (HW.out.cell (p := ⟨b4, o4 + k, none⟩) (Nat.lt_of_lt_of_le hb4 bd)).trans HX4.out
                    obtain ⟨ra2, rf2, rb2, rs2⟩ := HA3
                    obtain ⟨ca2, cf2, cb2, cs2⟩ := HB3
                    go_wp2_with fail
                    refine wp_region_pre (S := fun w' => w'.cell? ⟨b, o + i, none⟩ = some (.slice (some ⟨b3, o3, none⟩) c.length c') ∧ w'.cell? ⟨b3, o3 + k, none⟩ = some (.int .i64 x) ∧ w'.cell? ⟨ga, i, none⟩ = some (.int .i64 y)) 14 (by kernel_rfl) (by kernel_rfl) ?_ (fun hH0 => ?_)
                    · exact ⟨hcw2, hx32, ra2⟩
                    refine PreG.take (i := 0) (v := ?vv1) rfl (by kernel_rfl) (by kernel_rfl) (fun _ _ _ h => h) (Or.inl ⟨by rfl, ?hy1⟩) (by assumption) ?rest1
                    case hy1 => intro w hSw; (try dsimp only at hSw); first | (go_simp; done) | (go_simp; with_reducible rfl)
                    try simp only [Act.put, List.getElem_toArray, List.getElem_cons_zero, List.getElem_cons_succ, List.setIfInBounds_toArray, List.set_cons_zero, List.set_cons_succ]
                    refine PreG.take (i := 1) (v := ?vv2) rfl (by kernel_rfl) (by kernel_rfl) (fun _ _ _ h => h) (Or.inl ⟨by rfl, ?hy2⟩) (by assumption) ?rest2
                    case hy2 => intro w hSw; (try dsimp only at hSw); first | (go_simp; done) | (go_simp; with_reducible rfl)
                    try simp only [Act.put, List.getElem_toArray, List.getElem_cons_zero, List.getElem_cons_succ, List.setIfInBounds_toArray, List.set_cons_zero, List.set_cons_succ]
                    refine PreG.take (i := 2) (v := ?vv3) rfl (by kernel_rfl) (by kernel_rfl) (fun _ _ _ h => h) (Or.inl ⟨by rfl, ?hy3⟩) (by assumption) ?rest3
                    case hy3 => intro w hSw; (try dsimp only at hSw); first | (go_simp; done) | (go_simp; with_reducible rfl)
                    try simp only [Act.put, List.getElem_toArray, List.getElem_cons_zero, List.getElem_cons_succ, List.setIfInBounds_toArray, List.set_cons_zero, List.set_cons_succ]
                    refine PreG.take (i := 3) (v := ?vv4) rfl (by kernel_rfl) (by kernel_rfl) (fun _ _ _ h => h) (Or.inl ⟨by rfl, ?hy4⟩) (by assumption) ?rest4
                    case hy4 => intro w hSw; (try dsimp only at hSw); first | (go_simp; done) | (go_simp; with_reducible rfl)
                    try simp only [Act.put, List.getElem_toArray, List.getElem_cons_zero, List.getElem_cons_succ, List.setIfInBounds_toArray, List.set_cons_zero, List.set_cons_succ]
                    refine PreG.take (i := 4) (v := ?vv5) rfl (by kernel_rfl) (by kernel_rfl) (fun _ _ _ h => h) (Or.inl ⟨by rfl, ?hy5⟩) (by assumption) ?rest5
                    case hy5 => intro w hSw; (try dsimp only at hSw); first | (go_simp; done) | (go_simp; with_reducible rfl)
                    try simp only [Act.put, List.getElem_toArray, List.getElem_cons_zero, List.getElem_cons_succ, List.setIfInBounds_toArray, List.set_cons_zero, List.set_cons_succ]
                    refine PreG.take (i := 5) (v := ?vv6) rfl (by kernel_rfl) (by kernel_rfl) (fun _ _ _ h => h) (Or.inl ⟨by rfl, ?hy6⟩) (by assumption) ?rest6
                    case hy6 => intro w hSw; (try dsimp only at hSw); first | (go_simp; done) | (go_simp; with_reducible rfl)
                    try simp only [Act.put, List.getElem_toArray, List.getElem_cons_zero, List.getElem_cons_succ, List.setIfInBounds_toArray, List.set_cons_zero, List.set_cons_succ]
                    refine PreG.take (i := 6) (v := ?vv7) rfl (by kernel_rfl) (by kernel_rfl) (fun _ _ _ h => h) (Or.inl ⟨by rfl, ?hy7⟩) (by assumption) ?rest7
                    case hy7 => intro w hSw; (try dsimp only at hSw); first | (go_simp; done) | (go_simp; with_reducible rfl)
                    try simp only [Act.put, List.getElem_toArray, List.getElem_cons_zero, List.getElem_cons_succ, List.setIfInBounds_toArray, List.set_cons_zero, List.set_cons_succ]
                    refine PreG.take (i := 7) (v := ?vv8) rfl (by kernel_rfl) (by kernel_rfl) (fun _ _ _ h => h) (Or.inl ⟨by rfl, ?hy8⟩) (by assumption) ?rest8
                    case hy8 => intro w hSw; (try dsimp only at hSw); first | (go_simp; done) | (go_simp; with_reducible rfl)
                    try simp only [Act.put, List.getElem_toArray, List.getElem_cons_zero, List.getElem_cons_succ, List.setIfInBounds_toArray, List.set_cons_zero, List.set_cons_succ]
                    refine PreG.take (i := 8) (v := ?vv9) rfl (by kernel_rfl) (by kernel_rfl) (fun _ _ _ h => h) (Or.inl ⟨by rfl, ?hy9⟩) (by assumption) ?rest9
                    case hy9 => intro w hSw; (try dsimp only at hSw); first | (go_simp; done) | (go_simp; with_reducible rfl)
                    try simp only [Act.put, List.getElem_toArray, List.getElem_cons_zero, List.getElem_cons_succ, List.setIfInBounds_toArray, List.set_cons_zero, List.set_cons_succ]
                    refine PreG.take (i := 9) (v := ?vv10) rfl (by kernel_rfl) (by kernel_rfl) (fun _ _ _ h => h) (Or.inl ⟨by rfl, ?hy10⟩) (by assumption) ?rest10
                    case hy10 => intro w hSw; (try dsimp only at hSw); first | (go_simp; done) | (go_simp; with_reducible rfl)
                    try simp only [Act.put, List.getElem_toArray, List.getElem_cons_zero, List.getElem_cons_succ, List.setIfInBounds_toArray, List.set_cons_zero, List.set_cons_succ]
                    refine PreG.take (i := 10) (v := ?vv11) rfl (by kernel_rfl) (by kernel_rfl) (fun _ _ _ h => h) (Or.inl ⟨by rfl, ?hy11⟩) (by assumption) ?rest11
                    case hy11 => intro w hSw; (try dsimp only at hSw); first | (go_simp; done) | (go_simp; with_reducible rfl)
                    try simp only [Act.put, List.getElem_toArray, List.getElem_cons_zero, List.getElem_cons_succ, List.setIfInBounds_toArray, List.set_cons_zero, List.set_cons_succ]
                    refine PreG.take (i := 11) (v := ?vv12) rfl (by kernel_rfl) (by kernel_rfl) (fun _ _ _ h => h) (Or.inl ⟨by rfl, ?hy12⟩) (by assumption) ?rest12
                    case hy12 => intro w hSw; (try dsimp only at hSw); first | (go_simp; done) | (go_simp; with_reducible rfl)
                    try simp only [Act.put, List.getElem_toArray, List.getElem_cons_zero, List.getElem_cons_succ, List.setIfInBounds_toArray, List.set_cons_zero, List.set_cons_succ]
                    refine PreG.take (i := 12) (v := ?vv13) rfl (by kernel_rfl) (by kernel_rfl) (fun _ _ _ h => h) (Or.inl ⟨by rfl, ?hy13⟩) (by assumption) ?rest13
                    case hy13 => intro w hSw; (try dsimp only at hSw); first | (go_simp; done) | (go_simp; with_reducible rfl)
                    try simp only [Act.put, List.getElem_toArray, List.getElem_cons_zero, List.getElem_cons_succ, List.setIfInBounds_toArray, List.set_cons_zero, List.set_cons_succ]
                    refine PreG.take (i := 13) (v := ?vv14) rfl (by kernel_rfl) (by kernel_rfl) (fun _ _ _ h => h) (Or.inl ⟨by rfl, ?hy14⟩) (by assumption) ?rest14
                    case hy14 => intro w hSw; (try dsimp only at hSw); first | (go_simp; done) | (go_simp; with_reducible rfl)
                    try simp only [Act.put, List.getElem_toArray, List.getElem_cons_zero, List.getElem_cons_succ, List.setIfInBounds_toArray, List.set_cons_zero, List.set_cons_succ]
                    refine PreG.done (by kernel_rfl) ?_
                    simp only [List.drop_succ_cons, List.drop_zero]
                    clear hH0
                    have caD : wq.drew.cell? ⟨gb, k, none⟩ = some (.int .i64 a) := ca2
                    have cfD : wq.drew.frozen? ⟨gb, k, none⟩ = false := cf2
                    have HST := Lib.hid (own_store HB.out k (by omega) (.int .i64 (x - y)))
                    have HAF := Lib.hid (own_far HA.out (p := ⟨gb, k, none⟩) (fun e => by simp [Value.ownBlock] at e; omega) (.int .i64 (x - y)))
                    have HWS := Lib.hid (bl_set HW.out (p := ⟨gb, k, none⟩) cb2 (.int .i64 (x - y)))
                    go_wp2_with fail
                    go_roundw
                    case rel => exact ⟨i + 1, by go_num, by rw [HN.out], by omega, Lib.hid (bl_drew HWS.out), Lib.hid (own_below HAF.out (bl_drew (Below.refl _ _))), Lib.hid (by rw [numG_step hkl, HN.out, List.map_set]; exact own_below HST.out (bl_drew (Below.refl _ _)))⟩
                    case measure => simp only [intOf]; omega
                  · by_cases hxa : x - y < a
                    · have HN : Hid (lineC c no (rowN c no) k (i + 1) = (x - y, true)) := Lib.hid (by rw [lineC_see HR.out HQ.out HX.out HSS.out HY.out, HPP.out]; exact see_less rfl hxa)
                      have hcw1 := (HW.out.cell (p := ⟨b, o + i, none⟩) (Nat.lt_of_lt_of_le hb bd)).trans HCC.out
                      have hdw1 := (HW.out.cell (p := ⟨b2, o2 + i, none⟩) (Nat.lt_of_lt_of_le hb2 bd)).trans HD.out
                      have hx31 := (HW.out.cell (p := ⟨b3, o3 + k, none⟩) (Nat.lt_of_lt_of_le hb3 bd)).trans HX3.out
                      have hx41 := (HW.out.cell (p := ⟨b4, o4 + k, none⟩) (Nat.lt_of_lt_of_le hb4 bd)).trans HX4.out
                      obtain ⟨ra1, rf1, rb1, rs1⟩ := HA2.out
                      obtain ⟨ca1, cf1, cb1, cs1⟩ := HB2.out
                      go_wp2_with fail
                      go_quiet (skip)
                      replace HW := Lib.hid (bl_drewN HW.out nq)
                      replace HA := Lib.hid (own_below HA.out (bl_drewN (Below.refl _ _) nq))
                      replace HB := Lib.hid (own_below HB.out (bl_drewN (Below.refl _ _) nq))
                      have HA3 := own_cell1 HA.out hlt HY.out
                      have HB3 := own_cell1 HB.out hkl (numG_get hkl)
                      rw [HPP.out] at HB3
                      clear hcw1 hdw1 hx31 hx41 ra1 rf1 rb1 rs1 ca1 cf1 cb1 cs1
                      generalize wr.drewN nq = wq at HW HA HB HA3 HB3 ⊢
                      have hcw2 := (HW.out.cell (p := ⟨b, o + i, none⟩) (Nat.lt_of_lt_of_le hb bd)).trans HCC.out
                      have hdw2 := (HW.out.cell (p := ⟨b2, o2 + i, none⟩) (Nat.lt_of_lt_of_le hb2 bd)).trans HD.out
                      have hx32 := (HW.out.cell (p := ⟨b3, o3 + k, none⟩) (Nat.lt_of_lt_of_le hb3 bd)).trans HX3.out
                      have hx42 := (HW.out.cell (p := ⟨b4, o4 + k, none⟩) (Nat.lt_of_lt_of_le hb4 bd)).trans HX4.out
                      obtain ⟨ra2, rf2, rb2, rs2⟩ := HA3
                      obtain ⟨ca2, cf2, cb2, cs2⟩ := HB3
                      go_wp2_with fail
                      refine wp_region_pre (S := fun w' => w'.cell? ⟨b, o + i, none⟩ = some (.slice (some ⟨b3, o3, none⟩) c.length c') ∧ w'.cell? ⟨b3, o3 + k, none⟩ = some (.int .i64 x) ∧ w'.cell? ⟨ga, i, none⟩ = some (.int .i64 y)) 14 (by kernel_rfl) (by kernel_rfl) ?_ (fun hH0 => ?_)
                      · exact ⟨hcw2, hx32, ra2⟩
                      refine PreG.take (i := 0) (v := ?vv15) rfl (by kernel_rfl) (by kernel_rfl) (fun _ _ _ h => h) (Or.inl ⟨by rfl, ?hy15⟩) (by assumption) ?rest15
                      case hy15 => intro w hSw; (try dsimp only at hSw); first | (go_simp; done) | (go_simp; with_reducible rfl)
                      try simp only [Act.put, List.getElem_toArray, List.getElem_cons_zero, List.getElem_cons_succ, List.setIfInBounds_toArray, List.set_cons_zero, List.set_cons_succ]
                      refine PreG.take (i := 1) (v := ?vv16) rfl (by kernel_rfl) (by kernel_rfl) (fun _ _ _ h => h) (Or.inl ⟨by rfl, ?hy16⟩) (by assumption) ?rest16
                      case hy16 => intro w hSw; (try dsimp only at hSw); first | (go_simp; done) | (go_simp; with_reducible rfl)
                      try simp only [Act.put, List.getElem_toArray, List.getElem_cons_zero, List.getElem_cons_succ, List.setIfInBounds_toArray, List.set_cons_zero, List.set_cons_succ]
                      refine PreG.take (i := 2) (v := ?vv17) rfl (by kernel_rfl) (by kernel_rfl) (fun _ _ _ h => h) (Or.inl ⟨by rfl, ?hy17⟩) (by assumption) ?rest17
                      case hy17 => intro w hSw; (try dsimp only at hSw); first | (go_simp; done) | (go_simp; with_reducible rfl)
                      try simp only [Act.put, List.getElem_toArray, List.getElem_cons_zero, List.getElem_cons_succ, List.setIfInBounds_toArray, List.set_cons_zero, List.set_cons_succ]
                      refine PreG.take (i := 3) (v := ?vv18) rfl (by kernel_rfl) (by kernel_rfl) (fun _ _ _ h => h) (Or.inl ⟨by rfl, ?hy18⟩) (by assumption) ?rest18
                      case hy18 => intro w hSw; (try dsimp only at hSw); first | (go_simp; done) | (go_simp; with_reducible rfl)
                      try simp only [Act.put, List.getElem_toArray, List.getElem_cons_zero, List.getElem_cons_succ, List.setIfInBounds_toArray, List.set_cons_zero, List.set_cons_succ]
                      refine PreG.take (i := 4) (v := ?vv19) rfl (by kernel_rfl) (by kernel_rfl) (fun _ _ _ h => h) (Or.inl ⟨by rfl, ?hy19⟩) (by assumption) ?rest19
                      case hy19 => intro w hSw; (try dsimp only at hSw); first | (go_simp; done) | (go_simp; with_reducible rfl)
                      try simp only [Act.put, List.getElem_toArray, List.getElem_cons_zero, List.getElem_cons_succ, List.setIfInBounds_toArray, List.set_cons_zero, List.set_cons_succ]
                      refine PreG.take (i := 5) (v := ?vv20) rfl (by kernel_rfl) (by kernel_rfl) (fun _ _ _ h => h) (Or.inl ⟨by rfl, ?hy20⟩) (by assumption) ?rest20
                      case hy20 => intro w hSw; (try dsimp only at hSw); first | (go_simp; done) | (go_simp; with_reducible rfl)
                      try simp only [Act.put, List.getElem_toArray, List.getElem_cons_zero, List.getElem_cons_succ, List.setIfInBounds_toArray, List.set_cons_zero, List.set_cons_succ]
                      refine PreG.take (i := 6) (v := ?vv21) rfl (by kernel_rfl) (by kernel_rfl) (fun _ _ _ h => h) (Or.inl ⟨by rfl, ?hy21⟩) (by assumption) ?rest21
                      case hy21 => intro w hSw; (try dsimp only at hSw); first | (go_simp; done) | (go_simp; with_reducible rfl)
                      try simp only [Act.put, List.getElem_toArray, List.getElem_cons_zero, List.getElem_cons_succ, List.setIfInBounds_toArray, List.set_cons_zero, List.set_cons_succ]
                      refine PreG.take (i := 7) (v := ?vv22) rfl (by kernel_rfl) (by kernel_rfl) (fun _ _ _ h => h) (Or.inl ⟨by rfl, ?hy22⟩) (by assumption) ?rest22
                      case hy22 => intro w hSw; (try dsimp only at hSw); first | (go_simp; done) | (go_simp; with_reducible rfl)
                      try simp only [Act.put, List.getElem_toArray, List.getElem_cons_zero, List.getElem_cons_succ, List.setIfInBounds_toArray, List.set_cons_zero, List.set_cons_succ]
                      refine PreG.take (i := 8) (v := ?vv23) rfl (by kernel_rfl) (by kernel_rfl) (fun _ _ _ h => h) (Or.inl ⟨by rfl, ?hy23⟩) (by assumption) ?rest23
                      case hy23 => intro w hSw; (try dsimp only at hSw); first | (go_simp; done) | (go_simp; with_reducible rfl)
                      try simp only [Act.put, List.getElem_toArray, List.getElem_cons_zero, List.getElem_cons_succ, List.setIfInBounds_toArray, List.set_cons_zero, List.set_cons_succ]
                      refine PreG.take (i := 9) (v := ?vv24) rfl (by kernel_rfl) (by kernel_rfl) (fun _ _ _ h => h) (Or.inl ⟨by rfl, ?hy24⟩) (by assumption) ?rest24
                      case hy24 => intro w hSw; (try dsimp only at hSw); first | (go_simp; done) | (go_simp; with_reducible rfl)
                      try simp only [Act.put, List.getElem_toArray, List.getElem_cons_zero, List.getElem_cons_succ, List.setIfInBounds_toArray, List.set_cons_zero, List.set_cons_succ]
                      refine PreG.take (i := 10) (v := ?vv25) rfl (by kernel_rfl) (by kernel_rfl) (fun _ _ _ h => h) (Or.inl ⟨by rfl, ?hy25⟩) (by assumption) ?rest25
                      case hy25 => intro w hSw; (try dsimp only at hSw); first | (go_simp; done) | (go_simp; with_reducible rfl)
                      try simp only [Act.put, List.getElem_toArray, List.getElem_cons_zero, List.getElem_cons_succ, List.setIfInBounds_toArray, List.set_cons_zero, List.set_cons_succ]
                      refine PreG.take (i := 11) (v := ?vv26) rfl (by kernel_rfl) (by kernel_rfl) (fun _ _ _ h => h) (Or.inl ⟨by rfl, ?hy26⟩) (by assumption) ?rest26
                      case hy26 => intro w hSw; (try dsimp only at hSw); first | (go_simp; done) | (go_simp; with_reducible rfl)
                      try simp only [Act.put, List.getElem_toArray, List.getElem_cons_zero, List.getElem_cons_succ, List.setIfInBounds_toArray, List.set_cons_zero, List.set_cons_succ]
                      refine PreG.take (i := 12) (v := ?vv27) rfl (by kernel_rfl) (by kernel_rfl) (fun _ _ _ h => h) (Or.inl ⟨by rfl, ?hy27⟩) (by assumption) ?rest27
                      case hy27 => intro w hSw; (try dsimp only at hSw); first | (go_simp; done) | (go_simp; with_reducible rfl)
                      try simp only [Act.put, List.getElem_toArray, List.getElem_cons_zero, List.getElem_cons_succ, List.setIfInBounds_toArray, List.set_cons_zero, List.set_cons_succ]
                      refine PreG.take (i := 13) (v := ?vv28) rfl (by kernel_rfl) (by kernel_rfl) (fun _ _ _ h => h) (Or.inl ⟨by rfl, ?hy28⟩) (by assumption) ?rest28
                      case hy28 => intro w hSw; (try dsimp only at hSw); first | (go_simp; done) | (go_simp; with_reducible rfl)
                      try simp only [Act.put, List.getElem_toArray, List.getElem_cons_zero, List.getElem_cons_succ, List.setIfInBounds_toArray, List.set_cons_zero, List.set_cons_succ]
                      refine PreG.done (by kernel_rfl) ?_
                      simp only [List.drop_succ_cons, List.drop_zero]
                      clear hH0
                      have caD : wq.drew.cell? ⟨gb, k, none⟩ = some (.int .i64 a) := ca2
                      have cfD : wq.drew.frozen? ⟨gb, k, none⟩ = false := cf2
                      have HST := Lib.hid (own_store HB.out k (by omega) (.int .i64 (x - y)))
                      have HAF := Lib.hid (own_far HA.out (p := ⟨gb, k, none⟩) (fun e => by simp [Value.ownBlock] at e; omega) (.int .i64 (x - y)))
                      have HWS := Lib.hid (bl_set HW.out (p := ⟨gb, k, none⟩) cb2 (.int .i64 (x - y)))
                      go_wp2_with fail
                      go_roundw
                      case rel => exact ⟨i + 1, by go_num, by rw [HN.out], by omega, Lib.hid (bl_drew HWS.out), Lib.hid (own_below HAF.out (bl_drew (Below.refl _ _))), Lib.hid (by rw [numG_step hkl, HN.out, List.map_set]; exact own_below HST.out (bl_drew (Below.refl _ _)))⟩
                      case measure => simp only [intOf]; omega
                    · have HN : Hid (lineC c no (rowN c no) k (i + 1) = (a, true)) := Lib.hid (by rw [lineC_see HR.out HQ.out HX.out HSS.out HY.out, HPP.out]; exact see_old rfl hxa)
                      have hcw1 := (HW.out.cell (p := ⟨b, o + i, none⟩) (Nat.lt_of_lt_of_le hb bd)).trans HCC.out
                      have hdw1 := (HW.out.cell (p := ⟨b2, o2 + i, none⟩) (Nat.lt_of_lt_of_le hb2 bd)).trans HD.out
                      have hx31 := (HW.out.cell (p := ⟨b3, o3 + k, none⟩) (Nat.lt_of_lt_of_le hb3 bd)).trans HX3.out
                      have hx41 := (HW.out.cell (p := ⟨b4, o4 + k, none⟩) (Nat.lt_of_lt_of_le hb4 bd)).trans HX4.out
                      obtain ⟨ra1, rf1, rb1, rs1⟩ := HA2.out
                      obtain ⟨ca1, cf1, cb1, cs1⟩ := HB2.out
                      go_wp2_with fail
                      go_quiet (skip)
                      replace HW := Lib.hid (bl_drewN HW.out nq)
                      replace HA := Lib.hid (own_below HA.out (bl_drewN (Below.refl _ _) nq))
                      replace HB := Lib.hid (own_below HB.out (bl_drewN (Below.refl _ _) nq))
                      have HA3 := own_cell1 HA.out hlt HY.out
                      have HB3 := own_cell1 HB.out hkl (numG_get hkl)
                      rw [HPP.out] at HB3
                      clear hcw1 hdw1 hx31 hx41 ra1 rf1 rb1 rs1 ca1 cf1 cb1 cs1
                      generalize wr.drewN nq = wq at HW HA HB HA3 HB3 ⊢
                      go_wp2_with fail
                      go_roundw
                      case rel => exact ⟨i + 1, by go_num, by rw [HN.out], by omega, HW, HA, Lib.hid (by rw [numG_same hkl (by rw [HN.out, HPP.out])]; exact HB.out)⟩
                      case measure => simp only [intOf]; omega
                · have HN : Hid (lineC c no (rowN c no) k (i + 1) = (a, f)) := Lib.hid (by rw [lineC_skip HQ.out HSS.out, HPP.out])
                  have hcw1 := (HW.out.cell (p := ⟨b, o + i, none⟩) (Nat.lt_of_lt_of_le hb bd)).trans HCC.out
                  have hdw1 := (HW.out.cell (p := ⟨b2, o2 + i, none⟩) (Nat.lt_of_lt_of_le hb2 bd)).trans HD.out
                  have hx31 := (HW.out.cell (p := ⟨b3, o3 + k, none⟩) (Nat.lt_of_lt_of_le hb3 bd)).trans HX3.out
                  have hx41 := (HW.out.cell (p := ⟨b4, o4 + k, none⟩) (Nat.lt_of_lt_of_le hb4 bd)).trans HX4.out
                  obtain ⟨ra1, rf1, rb1, rs1⟩ := HA2.out
                  obtain ⟨ca1, cf1, cb1, cs1⟩ := HB2.out
                  go_wp2_with fail
                  go_quiet (skip)
                  replace HW := Lib.hid (bl_drewN HW.out nq)
                  replace HA := Lib.hid (own_below HA.out (bl_drewN (Below.refl _ _) nq))
                  replace HB := Lib.hid (own_below HB.out (bl_drewN (Below.refl _ _) nq))
                  have HA3 := own_cell1 HA.out hlt HY.out
                  have HB3 := own_cell1 HB.out hkl (numG_get hkl)
                  rw [HPP.out] at HB3
                  clear hcw1 hdw1 hx31 hx41 ra1 rf1 rb1 rs1 ca1 cf1 cb1 cs1
                  generalize wr.drewN nq = wq at HW HA HB HA3 HB3 ⊢
                  go_wp2_with fail
                  go_roundw
                  case rel => exact ⟨i + 1, by go_num, by rw [HN.out], by omega, HW, HA, Lib.hid (by rw [numG_same hkl (by rw [HN.out, HPP.out])]; exact HB.out)⟩
                  case measure => simp only [intOf]; omega
              · obtain rfl : i = c.length := by omega
                clear hlt hi
                obtain ⟨a, f, hp⟩ : ∃ a f, lineC c no (rowN c no) k c.length = (a, f) := ⟨_, _, rfl⟩
                simp only [hp]
                cases f
                · have HN := Lib.hid (show ¬ GoodP c no from fun h => by have := h.2.2 _ (colL_at hkl); rw [hp] at this; cases this)
                  clear hp
                  go_wp2_with fail
                  refine bodyPost_ret (v := .tuple #[.slice none 0 0, .slice none 0 0, .bool false]) (by simp [results, Try.results9, go_sem]) rfl ⟨⟨.inr ⟨HN.out, rfl⟩, HW.out⟩, apart_no⟩
                · have HS2 : Hid (∀ j, j < k + 1 → (lineC c no (rowN c no) j c.length).2 = true) := Lib.hid (fun j hj => by
                    by_cases h : j < k
                    · exact HS.out j h
                    · obtain rfl : j = k := by omega
                      rw [hp])
                  clear hp
                  go_wp2_with fail
                  go_roundw
                  case rel => exact ⟨k + 1, by go_num, by omega, HW, HA, Lib.hid (by rw [← numG_next lineC_zero]; exact HB.out), HS2⟩
                  case measure => simp only [intOf]; omega
          · obtain rfl : k = c.length := by omega
            have HCA := Lib.hid (colL_all HS.out)
            have HCN : Hid (wr.ownsRow w.heap.size 2 1 (.slice (some ⟨gb, 0, none⟩) c.length c.length) c.length ((colN c no).map (Value.int .i64))) := Lib.hid (by rw [colN_num]; exact HB.out)
            clear hkl hk HB HS
            go_wp2_with fail
            refine bodyPost_ret (v := .tuple #[.slice (some ⟨ga, 0, none⟩) c.length c.length, .slice (some ⟨gb, 0, none⟩) c.length c.length, .bool true]) (by simp [results, Try.results9, go_sem]) rfl ⟨⟨.inl ⟨⟨HP.out, HRA.out, HCA.out⟩, _, _, _, _, rfl, HA.out, HCN.out⟩, HW.out⟩, apart_of (Nat.ne_of_lt hab)⟩
  · rw [chkB_f hP] at HC
    have HN := Lib.hid (show ¬ GoodP c no from fun h => hP h.1)
    clear hP
    go_enter Try.func9, Try.ntmps9
    go_wp2_with fail
    (with_reducible refine HC.out.mono ?_); rintro e v1 ⟨rfl, hb1⟩
    go_wp2_with fail
    refine bodyPost_ret (v := .tuple #[.slice none 0 0, .slice none 0 0, .bool false]) (by simp [results, Try.results9, go_sem]) rfl ⟨⟨.inr ⟨HN.out, rfl⟩, hb1⟩, apart_no⟩
theorem rprices_any (c : List (List Int)) (no : List (List Bool)) (A1 A2 : Option Addr) (c1 c2 : Nat) (w : World) {B : Nat} (hI : TabAt w B c no A1 c1 A2 c2) :
    Calls Try.prog 9 #[.slice A1 c.length c1, .slice A2 no.length c2] w fun e w' => PricesPost w c no e w' := (rprices2_any c no A1 A2 c1 c2 w hI).mono fun _ _ h => h.1
end Go.Proofs.Ytamfhommmogknaa
