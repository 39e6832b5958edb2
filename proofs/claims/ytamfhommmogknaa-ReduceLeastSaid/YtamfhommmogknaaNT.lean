/- The walks of num, part T: the sum of a list. -/
import Derived.Test.YtamfhommmogknaaNC
namespace Go.Proofs.Ytamfhommmogknaa
open Go.RowKit
set_option linter.unusedVariables false
set_option linter.unusedSimpArgs false
set_option maxRecDepth 100000

theorem sum_take (l : List Int) (k : Nat) (h : k < l.length) : (l.take (k + 1)).sum = (l.take k).sum + l[k] := by
  rw [List.take_succ_eq_append_getElem h, List.sum_append]; simp
theorem sum_bd (l : List Int) (h : ∀ x ∈ l, InI x) : -(l.length * 9223372036854775808 : Int) ≤ l.sum ∧ l.sum ≤ (l.length * 9223372036854775808 : Int) := by
  induction l with
  | nil => simp
  | cons x l ih =>
    have h1 := h x (by simp)
    have h2 := ih fun y hy => h y (by simp [hy])
    have := h1.1; have := h1.2
    simp only [List.sum_cons, List.length_cons]
    omega
/-- How the rounds of a sum stand: k numbers are in it. -/
structure TotIn (w : World) (l : List Int) (k : Nat) (b : Nat) (wr : World) : Prop where
  kl : k ≤ l.length
  row : ∃ n h l', Blk wr b 63 #[.bool n, .int .u64 h, .int .u64 l'] ∧ IsW n h l' ((l.take k).sum)
  be : Below w.heap.size w wr

set_option maxHeartbeats 1600000 in
theorem total_any (A : Option Addr) (c : Nat) (l : List Int) (w : World) (hl : l.length ≤ 1000000) (hw : ∀ x ∈ l, InI x)
    (hr : 0 < l.length → ∃ ad, A = some ad ∧ ∀ j u, l[j]? = some u → w.cell? (ad.add j) = some (.int .i64 u)) :
    Calls Try.prog 34 #[.slice A l.length c] w (RetW l.sum w) := by
  have HR := Lib.hid hr
  have HW := Lib.hid hw
  clear hr hw
  go_enter Try.func34, Try.ntmps34
  go_wp2_with fail
  go_loopw [8] (fun i wr => ∃ k : Nat, i = .int .i64 k ∧ TotIn w l k (w.heap.size + 1) wr ∧ Blk wr w.heap.size 63 #[.bool false, .int .u64 0, .int .u64 0]) (fun i _ => l.length - (intOf i).toNat)
  case atStart =>
    exact ⟨0, rfl, ⟨Nat.zero_le _, ⟨false, 0, 0, Blk.new' (by simp) _ _, .mk_ (by omega) (by omega) (by omega) (by omega) (.inr ⟨rfl, by simp, by simp⟩)⟩, bl_alloc (bl_alloc (Below.refl _ _) _) _⟩, (Blk.new _ _ _).alloc _⟩
  case round =>
    obtain ⟨k, rfl, ⟨hk, ⟨n, h, l', hB, kW⟩, be⟩, hC⟩ := hrel
    have c0 : wr.cell? ⟨w.heap.size + 1, 0, none⟩ = some (.bool n) := (hB.cell 0).trans rfl
    have c1 : wr.cell? ⟨w.heap.size + 1, 1, none⟩ = some (.int .u64 h) := (hB.cell 1).trans rfl
    have c2 : wr.cell? ⟨w.heap.size + 1, 2, none⟩ = some (.int .u64 l') := (hB.cell 2).trans rfl
    have f0 := hB.frozen 0
    have f1 := hB.frozen 1
    have f2 := hB.frozen 2
    have z1 : w.heap.size + 1 < wr.heap.size := hB.lt
    by_cases hlt : k < l.length
    · obtain ⟨ad, rfl, hcell⟩ := HR.out (by omega)
      have hx : wr.cell? (ad.add k) = some (.int .i64 l[k]) := by
        have h0 := hcell k l[k] (List.getElem?_eq_getElem hlt)
        exact (be.cell (World.block_lt_of_cell? w _ h0)).trans h0
      have hxi : InI l[k] := HW.out _ (List.getElem_mem hlt)
      have hs := sum_take l k hlt
      have hs1 := sum_bd (l.take k) (fun x hx => HW.out x (List.mem_of_mem_take hx))
      rw [List.length_take, Nat.min_eq_left hk] at hs1
      generalize l[k] = x at hx hxi hs
      generalize (l.take k).sum = s at kW hs hs1
      have HA := Lib.hid (fun n2 h2 l2 w k2 => add_any n n2 h l' h2 l2 s x w kW k2 (by have := hxi.1; omega) (by have := hxi.2; omega))
      have HS := Lib.hid hs
      clear hcell hs hs1
      go_wp2_with fail
      go_region_with (first | (go_at_call 36; refine (of_any _ _ hxi).mono ?_; rintro e w2 ⟨n2, h2, l2, rfl, k2, hb2⟩; have hP := hB.drew.below hb2; have pc0 : w2.cell? ⟨w.heap.size + 1, 0, none⟩ = some (.bool n) := (hP.cell 0).trans rfl; have pf0 := hP.frozen 0; have pc1 : w2.cell? ⟨w.heap.size + 1, 1, none⟩ = some (.int .u64 h) := (hP.cell 1).trans rfl; have pf1 := hP.frozen 1; have pc2 : w2.cell? ⟨w.heap.size + 1, 2, none⟩ = some (.int .u64 l') := (hP.cell 2).trans rfl; have pf2 := hP.frozen 2) | (go_at_call 35; refine (HA.out _ _ _ _ k2).mono ?_; rintro e w3 ⟨n3, h3, l3, rfl, k3, hb3⟩; have hB3 := bl_step hb2 hb3; have hq := hB.drew.below hB3; have qc0 : w3.cell? ⟨w.heap.size + 1, 0, none⟩ = some (.bool n) := (hq.cell 0).trans rfl; have qf0 := hq.frozen 0; have qc1 : w3.cell? ⟨w.heap.size + 1, 1, none⟩ = some (.int .u64 h) := (hq.cell 1).trans rfl; have qf1 := hq.frozen 1; have qc2 : w3.cell? ⟨w.heap.size + 1, 2, none⟩ = some (.int .u64 l') := (hq.cell 2).trans rfl; have qf2 := hq.frozen 2))
      all_goals
        go_wp2
        go_roundw
        case rel =>
          refine ⟨k + 1, by go_num, ⟨by omega, ⟨n3, h3, l3, hq.put3, by rw [HS.out]; exact k3⟩, ?_⟩, ?_⟩
          · exact bl_set (bl_set (bl_set (bl_step be (bl_step (bl_drew (Below.refl _ _)) hB3)) (by simp) _) (by simp) _) (by simp) _
          · exact (((hC.drew.below hB3).far (by simp) _).far (by simp) _).far (by simp) _
        case measure => simp [intOf]; omega
    · have d0 : wr.cell? ⟨w.heap.size, 0, none⟩ = some (.bool false) := (hC.cell 0).trans rfl
      have d1 : wr.cell? ⟨w.heap.size, 1, none⟩ = some (.int .u64 0) := (hC.cell 1).trans rfl
      have d2 : wr.cell? ⟨w.heap.size, 2, none⟩ = some (.int .u64 0) := (hC.cell 2).trans rfl
      have g0 := hC.frozen 0
      have g1 := hC.frozen 1
      have g2 := hC.frozen 2
      go_wp2
      have hk1 : k = l.length := by omega
      refine bodyPost_ret (v := .agg #[.bool n, .int .u64 h, .int .u64 l']) (by simp [results, Try.results34, go_sem, d0, d1, d2, g0, g1, g2]) rfl ⟨n, h, l', rfl, ?_, ?_⟩
      · rw [hk1, List.take_of_length_le (Nat.le_refl _)] at kW; exact kW
      · exact bl_set (bl_set (bl_set be (by simp) _) (by simp) _) (by simp) _
end Go.Proofs.Ytamfhommmogknaa
