/- The walk of tame. -/
import Derived.Test.YtamfhommmogknaaDM
namespace Go.Proofs.Ytamfhommmogknaa
open Go Go.RowKit
set_option linter.unusedVariables false
set_option linter.unusedSimpArgs false
set_option maxRecDepth 100000

theorem own_cellB {w : World} {base g n d : Nat} {e : TypeId} {l : List Bool} (h : w.ownsRow base e 1 (.slice (some ⟨g, 0, none⟩) n d) n (l.map Value.bool)) {j : Nat} {x : Bool} (hj : j < n) (hx : l[j]? = some x) : w.cell? ⟨g, j, none⟩ = some (.bool x) ∧ w.frozen? ⟨g, j, none⟩ = false ∧ base ≤ g ∧ g < w.heap.size := by
  obtain ⟨g', eg, h1, h2, h3, h4⟩ := own_lt h (by omega)
  simp at eg
  subst eg
  exact ⟨h3 j _ (by rw [List.getElem?_map, hx]; rfl), h4 j, h1, h2⟩
/-- What tame hands back: a table that may be. -/
def TamePost (w : World) (mo : Nat) (e : Ending) (w' : World) : Prop := ∃ (d : List (List Int)) (q : List (List Bool)) (D Q : Option Addr) (dd qq : Nat), e = .returned (.tuple #[.slice D d.length dd, .slice Q q.length qq]) ∧ d.length ≤ mo ∧ ChkP d q ∧ TabAt w' w'.heap.size d q D dd Q qq ∧ Below w.heap.size w w'
set_option maxHeartbeats 12800000 in
theorem tame_any (c : List (List Int)) (no : List (List Bool)) (A1 A2 : Option Addr) (c1 c2 mo : Nat) (hmo : mo ≤ 40) (w : World) {B : Nat} (hI : TabAt w B c no A1 c1 A2 c2) :
    Calls Try.prog 7 #[.slice A1 c.length c1, .slice A2 no.length c2, .int .i64 (mo : Nat)] w fun e w' => TamePost w mo e w' := by
  have HI := Lib.hid hI
  have N1 := hI.n1
  have N2 := hI.n2
  have bd := hI.bd
  clear hI
  obtain ⟨n, M⟩ : ∃ n, (c.take mo).length = n := ⟨_, rfl⟩
  have E1 : (if mo < c.length then (mo : Int) else (c.length : Int)) = (n : Int) := by rw [List.length_take] at M; split <;> omega
  have Bn : n ≤ mo ∧ n ≤ c.length := by rw [List.length_take] at M; omega
  have hn70 : n ≤ 70 := by omega
  clear M
  go_enter Try.func7, Try.ntmps7
  go_wp2_with fail
  go_loopw [9, 10, 20] (fun v9 v10 vi wr => ∃ (i : Nat) (d : List (List Int)) (e : List (List Bool)), vi = .int .i64 i ∧ i ≤ n ∧ Hid (Below w.heap.size w wr) ∧ Hid (OwnR wr w.heap.size 29 2 v9 d) ∧ Hid (OwnQ wr w.heap.size 43 4 v10 e) ∧ Hid (d.length = i ∧ e.length = i ∧ (∀ r ∈ d, r.length = n ∧ ∀ x ∈ r, InM x) ∧ ∀ q ∈ e, q.length = n)) (fun _ _ vi _ => n - (intOf vi).toNat)
  case atStart => exact ⟨0, [], [], rfl, Nat.zero_le _, Lib.hid (Below.refl _ _), Lib.hid ⟨[], rfl, own_nil _ _ _ _, fun i r u h => by simp at h⟩, Lib.hid ⟨[], rfl, own_nil _ _ _ _, fun i r u h => by simp at h⟩, Lib.hid ⟨rfl, rfl, fun r h => by simp at h, fun r h => by simp at h⟩⟩
  case round =>
    obtain ⟨i, d, e, rfl, hi, HW, HD, HE, HL⟩ := hrel
    generalize wr = wo at HW HD HE ⊢
    by_cases hlt : i < n
    · obtain ⟨r, hr⟩ : ∃ r, c[i]? = some r := ⟨_, List.getElem?_eq_getElem (by omega)⟩
      obtain ⟨b, o, A', c', rfl, hb, hc, m1, m2, hrd⟩ := HI.out.cost.get hr
      have HRD := Lib.hid hrd
      have HC := Lib.hid hc
      have HRI := Lib.hid (HI.out.in_ r (List.mem_of_getElem? hr))
      have i0 : (0 : Int) ≤ (i : Int) := by omega
      have i1 : (i : Int) < (n : Int) := by omega
      have i2 : (i : Int) < (c.length : Int) := by omega
      have wz : w.heap.size ≤ wo.heap.size := HW.out.size
      clear hr hrd hc
      go_wp2_with fail
      refine wp_region_pre (S := fun w' => True) 5 (by kernel_rfl) (by kernel_rfl) ?_ (fun hH0 => ?_)
      · exact trivial
      refine PreG.take (i := 0) (v := ?vv1) rfl (by kernel_rfl) (by kernel_rfl) (fun _ _ _ h => h) (Or.inl ⟨by rfl, ?hy1⟩) (by assumption) ?rest1
      case hy1 => intro w hSw; (try dsimp only at hSw); first | (go_simp; done) | (go_simp; with_reducible rfl)
      try simp only [Act.put, List.getElem_toArray, List.getElem_cons_zero, List.getElem_cons_succ, List.setIfInBounds_toArray, List.set_cons_zero, List.set_cons_succ]
      refine PreG.take (i := 2) (v := ?vv2) rfl (by kernel_rfl) (by kernel_rfl) (fun _ _ _ h => h) (Or.inl ⟨by rfl, ?hy2⟩) (by assumption) ?rest2
      case hy2 => intro w hSw; (try dsimp only at hSw); first | (go_simp; done) | (go_simp; with_reducible rfl)
      try simp only [Act.put, List.getElem_toArray, List.getElem_cons_zero, List.getElem_cons_succ, List.setIfInBounds_toArray, List.set_cons_zero, List.set_cons_succ]
      refine PreG.ready (rs := [1, 3]) (by kernel_rfl) (by kernel_rfl) ?_
      refine AllPre.cons rfl (fun K hK => ?_) ?_
      · obtain ⟨X3, ru3, ow3, bw3, sz3⟩ := run_mk (w := wo.drew) (n := n) Try.underlying29 info_I rfl (by omega) hn70
        replace sz3 := Lib.hid sz3
        refine step_mk rfl (.tmp 23) (.tmp 23) 29 rfl (by exact ru3) ?_
        refine hK.out _ _ ?_ (fun hH1 => ?_)
        · exact trivial
        clear hK K hH0
        try simp only [Act.put, List.getElem_toArray, List.getElem_cons_zero, List.getElem_cons_succ, List.setIfInBounds_toArray, List.set_cons_zero, List.set_cons_succ]
        refine PreG.take (i := 4) (v := ?vv4) rfl (by kernel_rfl) (by kernel_rfl) (fun _ _ _ h => h) (Or.inl ⟨by rfl, ?hy4⟩) (by assumption) ?rest4
        case hy4 => intro w hSw; (try dsimp only at hSw); first | (go_simp; done) | (go_simp; with_reducible rfl)
        try simp only [Act.put, List.getElem_toArray, List.getElem_cons_zero, List.getElem_cons_succ, List.setIfInBounds_toArray, List.set_cons_zero, List.set_cons_succ]
        refine PreG.ready (rs := [3]) (by kernel_rfl) (by kernel_rfl) ?_
        refine AllPre.cons rfl (fun K hK => ?_) ?_
        · obtain ⟨X5, ru5, ow5, bw5, sz5⟩ := run_mk (w := X3) (n := n) Try.underlying43 info_B rfl (by omega) hn70
          replace sz5 := Lib.hid sz5
          refine step_mk rfl (.tmp 25) (.tmp 25) 43 rfl (by exact ru5) ?_
          refine hK.out _ _ ?_ (fun hH2 => ?_)
          · exact trivial
          clear hK K hH1
          try simp only [Act.put, List.getElem_toArray, List.getElem_cons_zero, List.getElem_cons_succ, List.setIfInBounds_toArray, List.set_cons_zero, List.set_cons_succ]
          refine PreG.done (by kernel_rfl) ?_
          simp only [List.drop_succ_cons, List.drop_zero]
          clear hH2
          have s1 := sz3.out
          have s2 := sz5.out
          have ed : wo.drew.heap.size = wo.heap.size := rfl
          have HX := Lib.hid (bl_step (bl_drew (Below.refl wo.heap.size wo)) (bl_step bw3 bw5))
          have HOi : Hid (X5.ownsRow wo.heap.size 2 1 (.slice (some ⟨wo.heap.size, 0, none⟩) n n) n (List.replicate n (.int .i64 0))) := Lib.hid (own_more (base' := wo.heap.size) (own_below ow3 bw5) (by omega))
          have HOb : Hid (X5.ownsRow wo.heap.size 4 1 (.slice (some ⟨X3.heap.size, 0, none⟩) n n) n (List.replicate n (.bool false))) := Lib.hid (own_more (base' := wo.heap.size) ow5 (by omega))
          have hne : wo.heap.size ≠ X3.heap.size := by omega
          generalize X5 = wm at HX HOi HOb ⊢
          generalize hgx : X3.heap.size = gx at HOb hne ⊢
          clear hgx ru3 ru5 ed s1 s2
          go_wp2_with fail
          go_loopw [28] (fun vk wr => ∃ (k : Nat) (zs : List Int) (bs : List Bool), vk = .int .i64 k ∧ k ≤ n ∧ Hid (Below wo.heap.size wo wr) ∧ Hid (wr.ownsRow wo.heap.size 2 1 (.slice (some ⟨wo.heap.size, 0, none⟩) n n) n (zs.map (Value.int .i64))) ∧ Hid (wr.ownsRow wo.heap.size 4 1 (.slice (some ⟨gx, 0, none⟩) n n) n (bs.map Value.bool)) ∧ Hid (zs.length = n ∧ (∀ x ∈ zs, InM x) ∧ bs.length = n)) (fun vk _ => n - (intOf vk).toNat)
          case atStart => exact ⟨0, List.replicate n 0, List.replicate n false, rfl, Nat.zero_le _, HX, Lib.hid (by rw [List.map_replicate]; exact HOi.out), Lib.hid (by rw [List.map_replicate]; exact HOb.out), Lib.hid ⟨by simp, fun x hx => by obtain ⟨_, rfl⟩ := List.mem_replicate.1 hx; exact ⟨by decide, by decide⟩, by simp⟩⟩
          case round =>
            clear HX HOi HOb
            obtain ⟨k, zs, bs, rfl, hk, HX, HOi, HOb, HZ⟩ := hrel
            by_cases hkn : k < n
            · have k0 : (0 : Int) ≤ (k : Int) := by omega
              have k1 : (k : Int) < (n : Int) := by omega
              have BW := Lib.hid (HW.out.trans (HX.out.mono wz))
              have hcw := (BW.out.cell (p := ⟨b, o + i, none⟩) (Nat.lt_of_lt_of_le hb bd)).trans HC.out
              obtain ⟨z1, hz1⟩ : ∃ z, zs[k]? = some z := ⟨_, List.getElem?_eq_getElem (by have := HZ.out.1; omega)⟩
              obtain ⟨b1, hb1⟩ : ∃ z, bs[k]? = some z := ⟨_, List.getElem?_eq_getElem (by have := HZ.out.2.2; omega)⟩
              obtain ⟨ia, if_, ib, is⟩ := own_cell1 HOi.out hkn hz1
              obtain ⟨ba, bf, bb, bs_⟩ := own_cellB HOb.out hkn hb1
              clear hz1 hb1
              by_cases hkr : k < r.length
              · obtain ⟨x, hx⟩ : ∃ x, r[k]? = some x := ⟨_, List.getElem?_eq_getElem hkr⟩
                obtain ⟨b3, o3, rfl, hb3, hx3⟩ := HRD.out.get hx
                have hx3 := (BW.out.cell (p := ⟨b3, o3 + k, none⟩) (Nat.lt_of_lt_of_le hb3 bd)).trans hx3
                have xi := HRI.out x (List.mem_of_getElem? hx)
                have k2 : (k : Int) < (r.length : Int) := by omega
                clear hx
                obtain ⟨y, hy⟩ : ∃ y, (if x < -2147483648 then (-2147483648 : Int) else x) = y := ⟨_, rfl⟩
                obtain ⟨z, hz⟩ : ∃ z, (if (2147483648 : Int) < y then (2147483648 : Int) else y) = z := ⟨_, rfl⟩
                have HZI : Hid (InM z) := Lib.hid (by unfold InM; split at hy <;> split at hz <;> omega)
                have HS1 := Lib.hid (own_store HOi.out k (by omega) (.int .i64 z))
                have HS2 := Lib.hid (own_far HOb.out (p := ⟨wo.heap.size, k, none⟩) (fun e => by simp [Value.ownBlock] at e; omega) (.int .i64 z))
                have HX2 := Lib.hid (HX.out.setCell (p := ⟨wo.heap.size, k, none⟩) ib (.int .i64 z))
                have BW2 := Lib.hid (HW.out.trans (HX2.out.mono wz))
                have ba2 : (wr.setCell ⟨wo.heap.size, k, none⟩ (.int .i64 z)).cell? ⟨gx, k, none⟩ = some (.bool b1) := by rw [World.cell?_setCell_other _ _ _ _ (fun e => by injection e with e; exact hne e)]; exact ba
                have bf2 : (wr.setCell ⟨wo.heap.size, k, none⟩ (.int .i64 z)).frozen? ⟨gx, k, none⟩ = false := by rw [World.frozen?_setCell]; exact bf
                by_cases hin : i < no.length
                · obtain ⟨q, hq⟩ : ∃ q, no[i]? = some q := ⟨_, List.getElem?_eq_getElem hin⟩
                  obtain ⟨b4, o4, Q4, c4, rfl, hb4, hc4, m4, m5, hqd⟩ := HI.out.no_.get hq
                  have hc4 := (BW2.out.cell (p := ⟨b4, o4 + i, none⟩) (Nat.lt_of_lt_of_le hb4 bd)).trans hc4
                  have i3 : (i : Int) < (no.length : Int) := by omega
                  clear hq
                  by_cases hkq : k < q.length
                  · obtain ⟨s, hs⟩ : ∃ s, q[k]? = some s := ⟨_, List.getElem?_eq_getElem hkq⟩
                    obtain ⟨b5, o5, rfl, hb5, hs5⟩ := hqd.get hs
                    have hs5 := (BW2.out.cell (p := ⟨b5, o5 + k, none⟩) (Nat.lt_of_lt_of_le hb5 bd)).trans hs5
                    have k3 : (k : Int) < (q.length : Int) := by omega
                    clear hs
                    have T1 := Lib.hid (own_store HS2.out k (by omega) (.bool s))
                    have T2 := Lib.hid (own_far HS1.out (p := ⟨gx, k, none⟩) (fun e => by simp [Value.ownBlock] at e; omega) (.bool s))
                    have T3 := Lib.hid (HX2.out.setCell (p := ⟨gx, k, none⟩) bb (.bool s))
                    go_wp2_with fail
                    go_roundw
                    case rel => exact ⟨k + 1, (zs.set k z), bs.set k s, by go_num, by omega, T3, Lib.hid (by rw [List.map_set]; exact T2.out), Lib.hid (by rw [List.map_set]; exact T1.out), Lib.hid ⟨by rw [List.length_set]; exact HZ.out.1, fun x hx => by rcases List.mem_or_eq_of_mem_set hx with h | rfl; exact HZ.out.2.1 x h; exact HZI.out, by rw [List.length_set]; exact HZ.out.2.2⟩⟩
                    case measure => simp only [intOf]; omega
                  · have k3 : ¬ (k : Int) < (q.length : Int) := by omega
                    have T1 := Lib.hid (own_store HS2.out k (by omega) (.bool false))
                    have T2 := Lib.hid (own_far HS1.out (p := ⟨gx, k, none⟩) (fun e => by simp [Value.ownBlock] at e; omega) (.bool false))
                    have T3 := Lib.hid (HX2.out.setCell (p := ⟨gx, k, none⟩) bb (.bool false))
                    go_wp2_with fail
                    go_roundw
                    case rel => exact ⟨k + 1, (zs.set k z), bs.set k false, by go_num, by omega, T3, Lib.hid (by rw [List.map_set]; exact T2.out), Lib.hid (by rw [List.map_set]; exact T1.out), Lib.hid ⟨by rw [List.length_set]; exact HZ.out.1, fun x hx => by rcases List.mem_or_eq_of_mem_set hx with h | rfl; exact HZ.out.2.1 x h; exact HZI.out, by rw [List.length_set]; exact HZ.out.2.2⟩⟩
                    case measure => simp only [intOf]; omega
                · have i3 : ¬ (i : Int) < (no.length : Int) := by omega
                  have T1 := Lib.hid (own_store HS2.out k (by omega) (.bool false))
                  have T2 := Lib.hid (own_far HS1.out (p := ⟨gx, k, none⟩) (fun e => by simp [Value.ownBlock] at e; omega) (.bool false))
                  have T3 := Lib.hid (HX2.out.setCell (p := ⟨gx, k, none⟩) bb (.bool false))
                  go_wp2_with fail
                  go_roundw
                  case rel => exact ⟨k + 1, (zs.set k z), bs.set k false, by go_num, by omega, T3, Lib.hid (by rw [List.map_set]; exact T2.out), Lib.hid (by rw [List.map_set]; exact T1.out), Lib.hid ⟨by rw [List.length_set]; exact HZ.out.1, fun x hx => by rcases List.mem_or_eq_of_mem_set hx with h | rfl; exact HZ.out.2.1 x h; exact HZI.out, by rw [List.length_set]; exact HZ.out.2.2⟩⟩
                  case measure => simp only [intOf]; omega
              · have k2 : ¬ (k : Int) < (r.length : Int) := by omega
                by_cases hin : i < no.length
                · obtain ⟨q, hq⟩ : ∃ q, no[i]? = some q := ⟨_, List.getElem?_eq_getElem hin⟩
                  obtain ⟨b4, o4, Q4, c4, rfl, hb4, hc4, m4, m5, hqd⟩ := HI.out.no_.get hq
                  have hc4 := (BW.out.cell (p := ⟨b4, o4 + i, none⟩) (Nat.lt_of_lt_of_le hb4 bd)).trans hc4
                  have i3 : (i : Int) < (no.length : Int) := by omega
                  clear hq
                  by_cases hkq : k < q.length
                  · obtain ⟨s, hs⟩ : ∃ s, q[k]? = some s := ⟨_, List.getElem?_eq_getElem hkq⟩
                    obtain ⟨b5, o5, rfl, hb5, hs5⟩ := hqd.get hs
                    have hs5 := (BW.out.cell (p := ⟨b5, o5 + k, none⟩) (Nat.lt_of_lt_of_le hb5 bd)).trans hs5
                    have k3 : (k : Int) < (q.length : Int) := by omega
                    clear hs
                    have T1 := Lib.hid (own_store HOb.out k (by omega) (.bool s))
                    have T2 := Lib.hid (own_far HOi.out (p := ⟨gx, k, none⟩) (fun e => by simp [Value.ownBlock] at e; omega) (.bool s))
                    have T3 := Lib.hid (HX.out.setCell (p := ⟨gx, k, none⟩) bb (.bool s))
                    go_wp2_with fail
                    go_roundw
                    case rel => exact ⟨k + 1, zs, bs.set k s, by go_num, by omega, T3, Lib.hid (by exact T2.out), Lib.hid (by rw [List.map_set]; exact T1.out), Lib.hid ⟨HZ.out.1, HZ.out.2.1, by rw [List.length_set]; exact HZ.out.2.2⟩⟩
                    case measure => simp only [intOf]; omega
                  · have k3 : ¬ (k : Int) < (q.length : Int) := by omega
                    have T1 := Lib.hid (own_store HOb.out k (by omega) (.bool false))
                    have T2 := Lib.hid (own_far HOi.out (p := ⟨gx, k, none⟩) (fun e => by simp [Value.ownBlock] at e; omega) (.bool false))
                    have T3 := Lib.hid (HX.out.setCell (p := ⟨gx, k, none⟩) bb (.bool false))
                    go_wp2_with fail
                    go_roundw
                    case rel => exact ⟨k + 1, zs, bs.set k false, by go_num, by omega, T3, Lib.hid (by exact T2.out), Lib.hid (by rw [List.map_set]; exact T1.out), Lib.hid ⟨HZ.out.1, HZ.out.2.1, by rw [List.length_set]; exact HZ.out.2.2⟩⟩
                    case measure => simp only [intOf]; omega
                · have i3 : ¬ (i : Int) < (no.length : Int) := by omega
                  have T1 := Lib.hid (own_store HOb.out k (by omega) (.bool false))
                  have T2 := Lib.hid (own_far HOi.out (p := ⟨gx, k, none⟩) (fun e => by simp [Value.ownBlock] at e; omega) (.bool false))
                  have T3 := Lib.hid (HX.out.setCell (p := ⟨gx, k, none⟩) bb (.bool false))
                  go_wp2_with fail
                  go_roundw
                  case rel => exact ⟨k + 1, zs, bs.set k false, by go_num, by omega, T3, Lib.hid (by exact T2.out), Lib.hid (by rw [List.map_set]; exact T1.out), Lib.hid ⟨HZ.out.1, HZ.out.2.1, by rw [List.length_set]; exact HZ.out.2.2⟩⟩
                  case measure => simp only [intOf]; omega
            · obtain rfl : k = n := by omega
              clear hkn hk
              obtain ⟨ds, dl, dr, du⟩ := HD.out.below HX.out
              obtain ⟨es, el, er, eu⟩ := HE.out.below HX.out
              have dl1 : d.length = i := HL.out.1
              have el1 : e.length = i := HL.out.2.1
              have bs1 : w.heap.size ≤ wr.heap.size := by have := HX.out.size; omega
              have l1 : (d.length + 1) * 24 ≤ 140737488355328 := by omega
              have l2 : (e.length + 1) * 24 ≤ 140737488355328 := by omega
              clear dl1 el1
              obtain ⟨V9, q9, rfl, _⟩ := own_slice dr
              obtain ⟨V10, q10, rfl, _⟩ := own_slice er
              go_wp2_with (first | (at_builtin; (refine app1b w.heap.size bs1 rfl (.tmp 76) (.tmp 78) 22 29 (.slice none 0 0) 24 rfl Try.underlying22 info_RI rfl (by omega) _ d.length _ (.slice (some ⟨wo.heap.size, 0, none⟩) k k) rfl rfl rfl dr l1 ?_; intro v4 w4 hown4 hg4; have bs4 : w.heap.size ≤ w4.heap.size := (by have := hg4.size; omega); have er4 := own_oth er dr (by decide) hg4)) | (at_builtin; (refine app1b w.heap.size bs4 rfl (.tmp 80) (.tmp 82) 23 43 (.slice none 0 0) 24 rfl Try.underlying23 info_RB rfl (by omega) _ e.length _ (.slice (some ⟨gx, 0, none⟩) k k) rfl rfl rfl er4 l2 ?_; intro v5 w5 hown5 hg5)))
              have xr4 := own_oth (own_more HOi.out wz) dr (by decide) hg4
              have xb4 := own_oth (own_more HOb.out wz) dr (by decide) hg4
              have FBL : Hid (Below w.heap.size w w5) := Lib.hid (bl_grown (bl_grown (HW.out.trans (HX.out.mono wz)) hg4 (fun q hq => own_base dr q hq)) hg5 (fun q hq => own_base er4 q hq))
              have FD := Lib.hid (OwnR.snoc (r := zs) dl (own_oth hown4 er4 (by decide) hg5) (fun j r u a b => own_oth (own_oth (du j r u a b) dr (by decide) hg4) er4 (by decide) hg5) (by rw [HZ.out.1]; exact own_oth xr4 er4 (by decide) hg5))
              have FE := Lib.hid (OwnQ.snoc (r := bs) el hown5 (fun j r u a b => own_oth (own_oth (eu j r u a b) dr (by decide) hg4) er4 (by decide) hg5) (by rw [HZ.out.2.2]; exact own_oth xb4 er4 (by decide) hg5))
              go_roundw
              case rel => exact ⟨i + 1, d ++ [zs], e ++ [bs], by go_num, by omega, FBL, FD, FE, Lib.hid ⟨by simp [HL.out.1], by simp [HL.out.2.1], fun r hr => by rcases List.mem_append.1 hr with h | h; exact HL.out.2.2.1 r h; simp at h; subst h; exact ⟨HZ.out.1, HZ.out.2.1⟩, fun r hr => by rcases List.mem_append.1 hr with h | h; exact HL.out.2.2.2 r h; simp at h; subst h; exact HZ.out.2.2⟩⟩
              case measure => simp only [intOf]; omega
        exact AllPre.nil
      refine AllPre.cons rfl (fun K hK => ?_) ?_
      · obtain ⟨X6, ru6, ow6, bw6, sz6⟩ := run_mk (w := wo.drew) (n := n) Try.underlying43 info_B rfl (by omega) hn70
        replace sz6 := Lib.hid sz6
        refine step_mk rfl (.tmp 25) (.tmp 25) 43 rfl (by exact ru6) ?_
        refine hK.out _ _ ?_ (fun hH1 => ?_)
        · exact trivial
        clear hK K hH0
        try simp only [Act.put, List.getElem_toArray, List.getElem_cons_zero, List.getElem_cons_succ, List.setIfInBounds_toArray, List.set_cons_zero, List.set_cons_succ]
        refine PreG.ready (rs := [1]) (by kernel_rfl) (by kernel_rfl) ?_
        refine AllPre.cons rfl (fun K hK => ?_) ?_
        · obtain ⟨X7, ru7, ow7, bw7, sz7⟩ := run_mk (w := X6) (n := n) Try.underlying29 info_I rfl (by omega) hn70
          replace sz7 := Lib.hid sz7
          refine step_mk rfl (.tmp 23) (.tmp 23) 29 rfl (by exact ru7) ?_
          refine hK.out _ _ ?_ (fun hH2 => ?_)
          · exact trivial
          clear hK K hH1
          try simp only [Act.put, List.getElem_toArray, List.getElem_cons_zero, List.getElem_cons_succ, List.setIfInBounds_toArray, List.set_cons_zero, List.set_cons_succ]
          refine PreG.take (i := 4) (v := ?vv8) rfl (by kernel_rfl) (by kernel_rfl) (fun _ _ _ h => h) (Or.inl ⟨by rfl, ?hy8⟩) (by assumption) ?rest8
          case hy8 => intro w hSw; (try dsimp only at hSw); first | (go_simp; done) | (go_simp; with_reducible rfl)
          try simp only [Act.put, List.getElem_toArray, List.getElem_cons_zero, List.getElem_cons_succ, List.setIfInBounds_toArray, List.set_cons_zero, List.set_cons_succ]
          refine PreG.done (by kernel_rfl) ?_
          simp only [List.drop_succ_cons, List.drop_zero]
          clear hH2
          have s1 := sz6.out
          have s2 := sz7.out
          have ed : wo.drew.heap.size = wo.heap.size := rfl
          have HX := Lib.hid (bl_step (bl_drew (Below.refl wo.heap.size wo)) (bl_step bw6 bw7))
          have HOi : Hid (X7.ownsRow wo.heap.size 2 1 (.slice (some ⟨X6.heap.size, 0, none⟩) n n) n (List.replicate n (.int .i64 0))) := Lib.hid (own_more (base' := wo.heap.size) ow7 (by omega))
          have HOb : Hid (X7.ownsRow wo.heap.size 4 1 (.slice (some ⟨wo.heap.size, 0, none⟩) n n) n (List.replicate n (.bool false))) := Lib.hid (own_more (base' := wo.heap.size) (own_below ow6 bw7) (by omega))
          have hne : X6.heap.size ≠ wo.heap.size := by omega
          generalize X7 = wm at HX HOi HOb ⊢
          generalize hgx : X6.heap.size = gx at HOi hne ⊢
          clear hgx ru6 ru7 ed s1 s2
          go_wp2_with fail
          go_loopw [28] (fun vk wr => ∃ (k : Nat) (zs : List Int) (bs : List Bool), vk = .int .i64 k ∧ k ≤ n ∧ Hid (Below wo.heap.size wo wr) ∧ Hid (wr.ownsRow wo.heap.size 2 1 (.slice (some ⟨gx, 0, none⟩) n n) n (zs.map (Value.int .i64))) ∧ Hid (wr.ownsRow wo.heap.size 4 1 (.slice (some ⟨wo.heap.size, 0, none⟩) n n) n (bs.map Value.bool)) ∧ Hid (zs.length = n ∧ (∀ x ∈ zs, InM x) ∧ bs.length = n)) (fun vk _ => n - (intOf vk).toNat)
          case atStart => exact ⟨0, List.replicate n 0, List.replicate n false, rfl, Nat.zero_le _, HX, Lib.hid (by rw [List.map_replicate]; exact HOi.out), Lib.hid (by rw [List.map_replicate]; exact HOb.out), Lib.hid ⟨by simp, fun x hx => by obtain ⟨_, rfl⟩ := List.mem_replicate.1 hx; exact ⟨by decide, by decide⟩, by simp⟩⟩
          case round =>
            clear HX HOi HOb
            obtain ⟨k, zs, bs, rfl, hk, HX, HOi, HOb, HZ⟩ := hrel
            by_cases hkn : k < n
            · have k0 : (0 : Int) ≤ (k : Int) := by omega
              have k1 : (k : Int) < (n : Int) := by omega
              have BW := Lib.hid (HW.out.trans (HX.out.mono wz))
              have hcw := (BW.out.cell (p := ⟨b, o + i, none⟩) (Nat.lt_of_lt_of_le hb bd)).trans HC.out
              obtain ⟨z1, hz1⟩ : ∃ z, zs[k]? = some z := ⟨_, List.getElem?_eq_getElem (by have := HZ.out.1; omega)⟩
              obtain ⟨b1, hb1⟩ : ∃ z, bs[k]? = some z := ⟨_, List.getElem?_eq_getElem (by have := HZ.out.2.2; omega)⟩
              obtain ⟨ia, if_, ib, is⟩ := own_cell1 HOi.out hkn hz1
              obtain ⟨ba, bf, bb, bs_⟩ := own_cellB HOb.out hkn hb1
              clear hz1 hb1
              by_cases hkr : k < r.length
              · obtain ⟨x, hx⟩ : ∃ x, r[k]? = some x := ⟨_, List.getElem?_eq_getElem hkr⟩
                obtain ⟨b3, o3, rfl, hb3, hx3⟩ := HRD.out.get hx
                have hx3 := (BW.out.cell (p := ⟨b3, o3 + k, none⟩) (Nat.lt_of_lt_of_le hb3 bd)).trans hx3
                have xi := HRI.out x (List.mem_of_getElem? hx)
                have k2 : (k : Int) < (r.length : Int) := by omega
                clear hx
                obtain ⟨y, hy⟩ : ∃ y, (if x < -2147483648 then (-2147483648 : Int) else x) = y := ⟨_, rfl⟩
                obtain ⟨z, hz⟩ : ∃ z, (if (2147483648 : Int) < y then (2147483648 : Int) else y) = z := ⟨_, rfl⟩
                have HZI : Hid (InM z) := Lib.hid (by unfold InM; split at hy <;> split at hz <;> omega)
                have HS1 := Lib.hid (own_store HOi.out k (by omega) (.int .i64 z))
                have HS2 := Lib.hid (own_far HOb.out (p := ⟨gx, k, none⟩) (fun e => by simp [Value.ownBlock] at e; omega) (.int .i64 z))
                have HX2 := Lib.hid (HX.out.setCell (p := ⟨gx, k, none⟩) ib (.int .i64 z))
                have BW2 := Lib.hid (HW.out.trans (HX2.out.mono wz))
                have ba2 : (wr.setCell ⟨gx, k, none⟩ (.int .i64 z)).cell? ⟨wo.heap.size, k, none⟩ = some (.bool b1) := by rw [World.cell?_setCell_other _ _ _ _ (fun e => by injection e with e; exact hne e)]; exact ba
                have bf2 : (wr.setCell ⟨gx, k, none⟩ (.int .i64 z)).frozen? ⟨wo.heap.size, k, none⟩ = false := by rw [World.frozen?_setCell]; exact bf
                by_cases hin : i < no.length
                · obtain ⟨q, hq⟩ : ∃ q, no[i]? = some q := ⟨_, List.getElem?_eq_getElem hin⟩
                  obtain ⟨b4, o4, Q4, c4, rfl, hb4, hc4, m4, m5, hqd⟩ := HI.out.no_.get hq
                  have hc4 := (BW2.out.cell (p := ⟨b4, o4 + i, none⟩) (Nat.lt_of_lt_of_le hb4 bd)).trans hc4
                  have i3 : (i : Int) < (no.length : Int) := by omega
                  clear hq
                  by_cases hkq : k < q.length
                  · obtain ⟨s, hs⟩ : ∃ s, q[k]? = some s := ⟨_, List.getElem?_eq_getElem hkq⟩
                    obtain ⟨b5, o5, rfl, hb5, hs5⟩ := hqd.get hs
                    have hs5 := (BW2.out.cell (p := ⟨b5, o5 + k, none⟩) (Nat.lt_of_lt_of_le hb5 bd)).trans hs5
                    have k3 : (k : Int) < (q.length : Int) := by omega
                    clear hs
                    have T1 := Lib.hid (own_store HS2.out k (by omega) (.bool s))
                    have T2 := Lib.hid (own_far HS1.out (p := ⟨wo.heap.size, k, none⟩) (fun e => by simp [Value.ownBlock] at e; omega) (.bool s))
                    have T3 := Lib.hid (HX2.out.setCell (p := ⟨wo.heap.size, k, none⟩) bb (.bool s))
                    go_wp2_with fail
                    go_roundw
                    case rel => exact ⟨k + 1, (zs.set k z), bs.set k s, by go_num, by omega, T3, Lib.hid (by rw [List.map_set]; exact T2.out), Lib.hid (by rw [List.map_set]; exact T1.out), Lib.hid ⟨by rw [List.length_set]; exact HZ.out.1, fun x hx => by rcases List.mem_or_eq_of_mem_set hx with h | rfl; exact HZ.out.2.1 x h; exact HZI.out, by rw [List.length_set]; exact HZ.out.2.2⟩⟩
                    case measure => simp only [intOf]; omega
                  · have k3 : ¬ (k : Int) < (q.length : Int) := by omega
                    have T1 := Lib.hid (own_store HS2.out k (by omega) (.bool false))
                    have T2 := Lib.hid (own_far HS1.out (p := ⟨wo.heap.size, k, none⟩) (fun e => by simp [Value.ownBlock] at e; omega) (.bool false))
                    have T3 := Lib.hid (HX2.out.setCell (p := ⟨wo.heap.size, k, none⟩) bb (.bool false))
                    go_wp2_with fail
                    go_roundw
                    case rel => exact ⟨k + 1, (zs.set k z), bs.set k false, by go_num, by omega, T3, Lib.hid (by rw [List.map_set]; exact T2.out), Lib.hid (by rw [List.map_set]; exact T1.out), Lib.hid ⟨by rw [List.length_set]; exact HZ.out.1, fun x hx => by rcases List.mem_or_eq_of_mem_set hx with h | rfl; exact HZ.out.2.1 x h; exact HZI.out, by rw [List.length_set]; exact HZ.out.2.2⟩⟩
                    case measure => simp only [intOf]; omega
                · have i3 : ¬ (i : Int) < (no.length : Int) := by omega
                  have T1 := Lib.hid (own_store HS2.out k (by omega) (.bool false))
                  have T2 := Lib.hid (own_far HS1.out (p := ⟨wo.heap.size, k, none⟩) (fun e => by simp [Value.ownBlock] at e; omega) (.bool false))
                  have T3 := Lib.hid (HX2.out.setCell (p := ⟨wo.heap.size, k, none⟩) bb (.bool false))
                  go_wp2_with fail
                  go_roundw
                  case rel => exact ⟨k + 1, (zs.set k z), bs.set k false, by go_num, by omega, T3, Lib.hid (by rw [List.map_set]; exact T2.out), Lib.hid (by rw [List.map_set]; exact T1.out), Lib.hid ⟨by rw [List.length_set]; exact HZ.out.1, fun x hx => by rcases List.mem_or_eq_of_mem_set hx with h | rfl; exact HZ.out.2.1 x h; exact HZI.out, by rw [List.length_set]; exact HZ.out.2.2⟩⟩
                  case measure => simp only [intOf]; omega
              · have k2 : ¬ (k : Int) < (r.length : Int) := by omega
                by_cases hin : i < no.length
                · obtain ⟨q, hq⟩ : ∃ q, no[i]? = some q := ⟨_, List.getElem?_eq_getElem hin⟩
                  obtain ⟨b4, o4, Q4, c4, rfl, hb4, hc4, m4, m5, hqd⟩ := HI.out.no_.get hq
                  have hc4 := (BW.out.cell (p := ⟨b4, o4 + i, none⟩) (Nat.lt_of_lt_of_le hb4 bd)).trans hc4
                  have i3 : (i : Int) < (no.length : Int) := by omega
                  clear hq
                  by_cases hkq : k < q.length
                  · obtain ⟨s, hs⟩ : ∃ s, q[k]? = some s := ⟨_, List.getElem?_eq_getElem hkq⟩
                    obtain ⟨b5, o5, rfl, hb5, hs5⟩ := hqd.get hs
                    have hs5 := (BW.out.cell (p := ⟨b5, o5 + k, none⟩) (Nat.lt_of_lt_of_le hb5 bd)).trans hs5
                    have k3 : (k : Int) < (q.length : Int) := by omega
                    clear hs
                    have T1 := Lib.hid (own_store HOb.out k (by omega) (.bool s))
                    have T2 := Lib.hid (own_far HOi.out (p := ⟨wo.heap.size, k, none⟩) (fun e => by simp [Value.ownBlock] at e; omega) (.bool s))
                    have T3 := Lib.hid (HX.out.setCell (p := ⟨wo.heap.size, k, none⟩) bb (.bool s))
                    go_wp2_with fail
                    go_roundw
                    case rel => exact ⟨k + 1, zs, bs.set k s, by go_num, by omega, T3, Lib.hid (by exact T2.out), Lib.hid (by rw [List.map_set]; exact T1.out), Lib.hid ⟨HZ.out.1, HZ.out.2.1, by rw [List.length_set]; exact HZ.out.2.2⟩⟩
                    case measure => simp only [intOf]; omega
                  · have k3 : ¬ (k : Int) < (q.length : Int) := by omega
                    have T1 := Lib.hid (own_store HOb.out k (by omega) (.bool false))
                    have T2 := Lib.hid (own_far HOi.out (p := ⟨wo.heap.size, k, none⟩) (fun e => by simp [Value.ownBlock] at e; omega) (.bool false))
                    have T3 := Lib.hid (HX.out.setCell (p := ⟨wo.heap.size, k, none⟩) bb (.bool false))
                    go_wp2_with fail
                    go_roundw
                    case rel => exact ⟨k + 1, zs, bs.set k false, by go_num, by omega, T3, Lib.hid (by exact T2.out), Lib.hid (by rw [List.map_set]; exact T1.out), Lib.hid ⟨HZ.out.1, HZ.out.2.1, by rw [List.length_set]; exact HZ.out.2.2⟩⟩
                    case measure => simp only [intOf]; omega
                · have i3 : ¬ (i : Int) < (no.length : Int) := by omega
                  have T1 := Lib.hid (own_store HOb.out k (by omega) (.bool false))
                  have T2 := Lib.hid (own_far HOi.out (p := ⟨wo.heap.size, k, none⟩) (fun e => by simp [Value.ownBlock] at e; omega) (.bool false))
                  have T3 := Lib.hid (HX.out.setCell (p := ⟨wo.heap.size, k, none⟩) bb (.bool false))
                  go_wp2_with fail
                  go_roundw
                  case rel => exact ⟨k + 1, zs, bs.set k false, by go_num, by omega, T3, Lib.hid (by exact T2.out), Lib.hid (by rw [List.map_set]; exact T1.out), Lib.hid ⟨HZ.out.1, HZ.out.2.1, by rw [List.length_set]; exact HZ.out.2.2⟩⟩
                  case measure => simp only [intOf]; omega
            · obtain rfl : k = n := by omega
              clear hkn hk
              obtain ⟨ds, dl, dr, du⟩ := HD.out.below HX.out
              obtain ⟨es, el, er, eu⟩ := HE.out.below HX.out
              have dl1 : d.length = i := HL.out.1
              have el1 : e.length = i := HL.out.2.1
              have bs1 : w.heap.size ≤ wr.heap.size := by have := HX.out.size; omega
              have l1 : (d.length + 1) * 24 ≤ 140737488355328 := by omega
              have l2 : (e.length + 1) * 24 ≤ 140737488355328 := by omega
              clear dl1 el1
              obtain ⟨V9, q9, rfl, _⟩ := own_slice dr
              obtain ⟨V10, q10, rfl, _⟩ := own_slice er
              go_wp2_with (first | (at_builtin; (refine app1b w.heap.size bs1 rfl (.tmp 76) (.tmp 78) 22 29 (.slice none 0 0) 24 rfl Try.underlying22 info_RI rfl (by omega) _ d.length _ (.slice (some ⟨gx, 0, none⟩) k k) rfl rfl rfl dr l1 ?_; intro v4 w4 hown4 hg4; have bs4 : w.heap.size ≤ w4.heap.size := (by have := hg4.size; omega); have er4 := own_oth er dr (by decide) hg4)) | (at_builtin; (refine app1b w.heap.size bs4 rfl (.tmp 80) (.tmp 82) 23 43 (.slice none 0 0) 24 rfl Try.underlying23 info_RB rfl (by omega) _ e.length _ (.slice (some ⟨wo.heap.size, 0, none⟩) k k) rfl rfl rfl er4 l2 ?_; intro v5 w5 hown5 hg5)))
              have xr4 := own_oth (own_more HOi.out wz) dr (by decide) hg4
              have xb4 := own_oth (own_more HOb.out wz) dr (by decide) hg4
              have FBL : Hid (Below w.heap.size w w5) := Lib.hid (bl_grown (bl_grown (HW.out.trans (HX.out.mono wz)) hg4 (fun q hq => own_base dr q hq)) hg5 (fun q hq => own_base er4 q hq))
              have FD := Lib.hid (OwnR.snoc (r := zs) dl (own_oth hown4 er4 (by decide) hg5) (fun j r u a b => own_oth (own_oth (du j r u a b) dr (by decide) hg4) er4 (by decide) hg5) (by rw [HZ.out.1]; exact own_oth xr4 er4 (by decide) hg5))
              have FE := Lib.hid (OwnQ.snoc (r := bs) el hown5 (fun j r u a b => own_oth (own_oth (eu j r u a b) dr (by decide) hg4) er4 (by decide) hg5) (by rw [HZ.out.2.2]; exact own_oth xb4 er4 (by decide) hg5))
              go_roundw
              case rel => exact ⟨i + 1, d ++ [zs], e ++ [bs], by go_num, by omega, FBL, FD, FE, Lib.hid ⟨by simp [HL.out.1], by simp [HL.out.2.1], fun r hr => by rcases List.mem_append.1 hr with h | h; exact HL.out.2.2.1 r h; simp at h; subst h; exact ⟨HZ.out.1, HZ.out.2.1⟩, fun r hr => by rcases List.mem_append.1 hr with h | h; exact HL.out.2.2.2 r h; simp at h; subst h; exact HZ.out.2.2⟩⟩
              case measure => simp only [intOf]; omega
        exact AllPre.nil
      exact AllPre.nil
    · obtain rfl : i = n := by omega
      obtain ⟨_, _, hdo, _⟩ := HD.out
      obtain ⟨D, dd, rfl, _⟩ := own_slice hdo
      obtain ⟨_, _, heo, _⟩ := HE.out
      obtain ⟨Q, qq, rfl, _⟩ := own_slice heo
      clear hdo heo
      clear hlt hi
      go_wp2
      go_ret2
      refine ⟨d, e, D, Q, dd, qq, rfl, by have := HL.out.1; omega, ⟨by have := HL.out.1; omega, by rw [HL.out.1, HL.out.2.1], fun k r hr => ?_⟩, ⟨HD.out.rd, HE.out.rd, ?_, ?_, fun r hr x hx => ?_, Nat.le_refl _⟩, HW.out⟩
      · have h1 := HL.out.2.2.1 r (List.mem_of_getElem? hr)
        have hk : k < e.length := by have := (List.getElem?_eq_some_iff.1 hr).1; have := HL.out.1; have := HL.out.2.1; omega
        exact ⟨by rw [h1.1, HL.out.1], ⟨_, List.getElem?_eq_getElem hk, by rw [HL.out.2.2.2 _ (List.getElem_mem hk), HL.out.1]⟩, h1.2⟩
      · obtain ⟨_, _, h, _⟩ := HD.out
        exact cap_of h
      · obtain ⟨_, _, h, _⟩ := HE.out
        exact cap_of h
      · have h1 := (HL.out.2.2.1 r hr).2 x hx
        exact ⟨by have := h1.1; omega, by have := h1.2; omega⟩
end Go.Proofs.Ytamfhommmogknaa
