/- The reader's small methods. -/
import Derived.Test.YtklomjpnmmaogaaDoorProg
import Derived.Test.YtklomjpnmmaogaaDoorPM
import Derived.Test.YtklomjpnmmaogaaDoorIS
import Derived.KernelRfl
import Derived.StillTailTactics
import Derived.Deep.RegionHeld3
import Derived.Lib.Hide
import Derived.Outline
namespace Go.Proofs.YtklomjpnmmaogaaDoor
open Go Go.RowKit
set_option linter.unusedVariables false
set_option linter.unusedSimpArgs false
set_option maxRecDepth 100000

/-- A fault, as it is panicked. -/
def pan (a b : Nat) (e : Int) : Ending := .panicked [{ v := .iface 118 (.agg #[.int .i64 a, .int .i64 b, .int .i64 e]), recovered := false }]
section
variable {w : World} {g c at_ : Nat} {A : Option Addr} {L : List Tok}
set_option maxHeartbeats 1600000 in
theorem ahead_any (h : Rd w g A c L at_) : Calls Tryd.prog 81 #[.pointer (some ⟨g, 0, none⟩)] w fun e w' => e = .returned (.agg #[.int .i64 (headT (L.drop at_)).kind, .string ⟨(headT (L.drop at_)).text.toArray⟩, .int .i64 (headT (L.drop at_)).num, .int .i64 (headT (L.drop at_)).line, .int .i64 (headT (L.drop at_)).col]) ∧ Below w.heap.size w w' := by
  obtain ⟨hlt, t, ht, hh, _⟩ := h.ends.drop_head
  rw [hh]
  have i0 : (0 : Int) ≤ at_ := by omega
  have i1 : (at_ : Int) < L.length := by omega
  have h2 := h.below (bl_alloc (Below.refl w.heap.size w) (.cells #[.int .i64 0, .string ⟨#[]⟩, .int .i64 0, .int .i64 0, .int .i64 0] 116))
  have hc := h.cap
  obtain ⟨b, o, rfl, hb, x0, x1, x2, x3, x4⟩ := h2.toks.five ht
  have NB : Blk (w.alloc (.cells #[.int .i64 0, .string ⟨#[]⟩, .int .i64 0, .int .i64 0, .int .i64 0] 116)) w.heap.size 116 #[.int .i64 0, .string ⟨#[]⟩, .int .i64 0, .int .i64 0, .int .i64 0] := Blk.new _ _ _
  have B := h2.box
  have gl := h.box.lt
  clear h h2 ht hh
  go_enter Tryd.func81, Tryd.ntmps81
  go_wp2_with fail
  have bl := bl_alloc (Below.refl w.heap.size w) (.cells #[.int .i64 0, .string ⟨#[]⟩, .int .i64 0, .int .i64 0, .int .i64 0] 116)
  generalize w.alloc (.cells #[.int .i64 0, .string ⟨#[]⟩, .int .i64 0, .int .i64 0, .int .i64 0] 116) = V at x0 x1 x2 x3 x4 NB B bl ⊢
  have r_z : g < V.heap.size := B.lt
  have r_c0 : V.cell? ⟨g, 0, none⟩ = some (.slice (some ⟨b, o, none⟩) L.length c) := (B.cell 0).trans rfl
  have r_f0 := B.frozen 0
  have r_c1 : V.cell? ⟨g, 1, none⟩ = some (.int .i64 at_) := (B.cell 1).trans rfl
  have r_f1 := B.frozen 1
  have n_z : w.heap.size < V.heap.size := NB.lt
  have n_c0 : V.cell? ⟨w.heap.size, 0, none⟩ = some (.int .i64 0) := (NB.cell 0).trans rfl
  have n_f0 := NB.frozen 0
  have n_c1 : V.cell? ⟨w.heap.size, 1, none⟩ = some (.string ⟨#[]⟩) := (NB.cell 1).trans rfl
  have n_f1 := NB.frozen 1
  have n_c2 : V.cell? ⟨w.heap.size, 2, none⟩ = some (.int .i64 0) := (NB.cell 2).trans rfl
  have n_f2 := NB.frozen 2
  have n_c3 : V.cell? ⟨w.heap.size, 3, none⟩ = some (.int .i64 0) := (NB.cell 3).trans rfl
  have n_f3 := NB.frozen 3
  have n_c4 : V.cell? ⟨w.heap.size, 4, none⟩ = some (.int .i64 0) := (NB.cell 4).trans rfl
  have n_f4 := NB.frozen 4
  clear B
  refine wp_region_still_tail 8 (by kernel_rfl) (by kernel_rfl) ?_
  simp only [List.take_succ_cons, List.take_zero, List.drop_succ_cons, List.drop_zero]
  change wpStill _ _ (World.drew _) _ _ _
  repeat still_step
  refine wpStill_nil ?_
  change wpList _ _ _ _ _ (World.drew _)
  go_wp2
  refine bodyPost_ret (v := (.agg #[.int .i64 (t).kind, .string ⟨(t).text.toArray⟩, .int .i64 (t).num, .int .i64 (t).line, .int .i64 (t).col])) (by simp [results, Tryd.results81, go_sem, r_z, n_z, n_c0, n_c1, n_c2, n_c3, n_c4, n_f0, n_f1, n_f2, n_f3, n_f4]) rfl ⟨rfl, ?_⟩
  (repeat (first | exact Below.refl _ _ | with_reducible assumption | refine bl_alloc ?_ _ | refine bl_set ?_ (by simp <;> omega) _ | refine bl_drew ?_ | refine bl_drewN ?_ _ | refine bl_step ?_ (by assumption)))
end
end Go.Proofs.YtklomjpnmmaogaaDoor
