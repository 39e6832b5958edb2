/- The walks of the reference for layer 1, part A. -/
import Derived.Test.YtkdklmkcanjjfaaDoorProg
import Derived.Test.YtkdklmkcanjjfaaDoorBig
import Derived.WalkKit
import Derived.KernelRfl
import Derived.Deep.QuietTactic
import Derived.BigQuiet
import Derived.Lib.Hide
import Derived.Outline
import Derived.Deep.RegionWith
import Derived.StillTailTactics
import Derived.Deep.RegionHeld3
namespace Go.Proofs.YtkdklmkcanjjfaaDoor
open Go.RowKit
set_option linter.unusedVariables false
set_option linter.unusedSimpArgs false
set_option maxRecDepth 100000

theorem trim_end (w W : World) (n : Bool) (A : Option Addr) (c : Nat) (ds : List Nat) (j : Nat) (h : BigD w n A ds.length c ds) (hj : j + 1 ≤ ds.length) (hz : ds[j] ≠ 0) (hd : dval (ds.take (j + 1)) = dval ds)
    (hb : Below w.heap.size w W) : BigV W n A (j + 1) c (sval n ds) := by
  have hlen : (ds.take (j + 1)).length = j + 1 := by rw [List.length_take]; omega
  have hlast : NoLead (ds.take (j + 1)) := by
    intro hh
    rw [List.getLast_eq_getElem]
    simp only [hlen, Nat.add_sub_cancel, List.getElem_take]
    exact hz
  have hpos : dval ds ≠ 0 := by
    rw [← hd]; intro h0
    have := (dval_zero _ hlast).1 h0
    rw [this] at hlen; simp at hlen
  refine ⟨ds.take (j + 1), ⟨hlen.symm, by have := h.cap; omega, h.capm, digs_take h.digs _, ?_⟩, hlast, ?_, ?_⟩
  · rw [← dvs_take]; exact (h.rd.below hb).take_ _
  · unfold sval; cases n
    · symm; rw [decide_eq_false_iff_not]; simp
    · symm; rw [decide_eq_true_iff, if_pos rfl]; omega
  · rw [hd]; unfold sval; cases n <;> simp
set_option maxHeartbeats 1600000 in
theorem trim_any (n : Bool) (A : Option Addr) (m c : Nat) (ds : List Nat) (w : World) (h : BigD w n A m c ds) :
    Calls Tryd.prog 66 #[.agg #[.bool n, .slice A m c]] w (RetBig (sval n ds) w) := by
  obtain rfl := h.len
  have hm := h.cap
  have hc := h.capm
  go_enter Tryd.func66, Tryd.ntmps66
  go_wp2_with fail
  go_loop [3] (fun v => ∃ k : Nat, v = .int .i64 k ∧ k ≤ ds.length ∧ dval (ds.take k) = dval ds) (fun v => (intOf v).toNat)
  case atStart => exact ⟨ds.length, rfl, Nat.le_refl _, by rw [List.take_of_length_le (Nat.le_refl _)]⟩
  case round =>
    obtain ⟨k, rfl, hk, hd⟩ := hrel
    have HD := Lib.hid hd
    clear hd
    by_cases h0 : k = 0
    · subst h0
      cases n
      · go_wp2_with fail
        refine wp_region_still_tail 11 (by kernel_rfl) (by kernel_rfl) ?_
        simp only [List.take_succ_cons, List.take_zero, List.drop_succ_cons, List.drop_zero]
        change wpStill _ _ (World.drew _) _ _ _
        repeat still_step
        refine wpStill_nil ?_
        change wpList _ _ _ _ _ (World.drew _)
        go_wp2
        refine bodyPost_ret (v := .agg #[.bool false, .slice A 0 c]) (by simp [results, Tryd.results66, go_sem]) rfl ⟨_, _, _, _, rfl, ⟨[], ⟨rfl, Nat.zero_le _, hc, (fun d hd => by cases hd), RdT.nil_ _ _ _⟩, fun hh => absurd rfl hh, ?_, ?_⟩, ?_⟩
        · have := HD.out; simp only [List.take_zero, dval] at this; simp [sval, ← this]
        · have := HD.out; simp only [List.take_zero, dval] at this; simp [sval, ← this, dval]
        · exact bl_drew (bl_alloc (bl_alloc (Below.refl _ _) _) _)
      · go_wp2_with fail
        refine wp_region_still_tail 11 (by kernel_rfl) (by kernel_rfl) ?_
        simp only [List.take_succ_cons, List.take_zero, List.drop_succ_cons, List.drop_zero]
        change wpStill _ _ (World.drew _) _ _ _
        repeat still_step
        refine wpStill_nil ?_
        change wpList _ _ _ _ _ (World.drew _)
        go_wp2
        refine bodyPost_ret (v := .agg #[.bool false, .slice A 0 c]) (by simp [results, Tryd.results66, go_sem]) rfl ⟨_, _, _, _, rfl, ⟨[], ⟨rfl, Nat.zero_le _, hc, (fun d hd => by cases hd), RdT.nil_ _ _ _⟩, fun hh => absurd rfl hh, ?_, ?_⟩, ?_⟩
        · have := HD.out; simp only [List.take_zero, dval] at this; simp [sval, ← this]
        · have := HD.out; simp only [List.take_zero, dval] at this; simp [sval, ← this, dval]
        · exact bl_drew (bl_alloc (bl_alloc (Below.refl _ _) _) _)
    · obtain ⟨j, rfl⟩ : ∃ j, k = j + 1 := ⟨k - 1, by omega⟩
      obtain ⟨ad, rfl, hcell⟩ := h.rd.at_ j (by rw [dvs_length]; omega)
      rw [dvs_get ds j (by omega)] at hcell
      have hcw : ∀ o1 o2, ((w.alloc o1).alloc o2).cell? (ad.add j) = some (.int .u64 ds[j]) := fun o1 o2 => ((bl_alloc (bl_alloc (Below.refl _ _) o1) o2).cell (World.block_lt_of_cell? w _ hcell)).trans hcell
      clear hcell
      by_cases hz : ds[j] = 0
      · rw [hz] at hcw
        have HZ := Lib.hid hz
        clear h0 hz
        go_wp2_with fail
        go_wp2
        go_round
        case rel => exact ⟨j, by go_num, by omega, by
          have h1 := HD.out
          have h2 := HZ.out
          rw [dval_take_succ ds j (by omega), h2] at h1
          simpa using h1⟩
        case measure => simp [intOf]
      · have hjc : (j : Int) + 1 ≤ (c : Int) := by omega
        have hj0 : 0 ≤ (j : Int) + 1 := by omega
        have hz1 : ((ds[j] : Nat) : Int) ≠ 0 := by omega
        have hz2 : (((ds[j] : Nat) : Int) == 0) = false := by simpa using hz1
        have HZ := Lib.hid hz
        clear h0 hz hz1
        cases n
        · go_wp2_with fail
          refine wp_region_still_tail 11 (by kernel_rfl) (by kernel_rfl) ?_
          simp only [List.take_succ_cons, List.take_zero, List.drop_succ_cons, List.drop_zero]
          change wpStill _ _ (World.drew _) _ _ _
          repeat still_step
          refine wpStill_nil ?_
          change wpList _ _ _ _ _ (World.drew _)
          go_wp2
          refine bodyPost_ret (v := .agg #[.bool false, .slice (some ad) (j + 1) c]) (by simp [results, Tryd.results66, go_sem]) rfl ⟨_, _, _, _, rfl, ?_, bl_drew (bl_alloc (bl_alloc (Below.refl _ _) _) _)⟩
          exact trim_end w _ false (some ad) c ds j h hk HZ.out HD.out (bl_drew (bl_alloc (bl_alloc (Below.refl _ _) _) _))
        · go_wp2_with fail
          refine wp_region_still_tail 11 (by kernel_rfl) (by kernel_rfl) ?_
          simp only [List.take_succ_cons, List.take_zero, List.drop_succ_cons, List.drop_zero]
          change wpStill _ _ (World.drew _) _ _ _
          repeat still_step
          refine wpStill_nil ?_
          change wpList _ _ _ _ _ (World.drew _)
          go_wp2
          refine bodyPost_ret (v := .agg #[.bool true, .slice (some ad) (j + 1) c]) (by simp [results, Tryd.results66, go_sem]) rfl ⟨_, _, _, _, rfl, ?_, bl_drew (bl_alloc (bl_alloc (Below.refl _ _) _) _)⟩
          exact trim_end w _ true (some ad) c ds j h hk HZ.out HD.out (bl_drew (bl_alloc (bl_alloc (Below.refl _ _) _) _))
end Go.Proofs.YtkdklmkcanjjfaaDoor
