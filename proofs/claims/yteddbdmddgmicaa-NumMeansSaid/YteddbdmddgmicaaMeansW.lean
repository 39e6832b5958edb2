/- The walk of NumMeans: the sum of every list, divided by every number and rounded down, is the document's, or there is none. -/
import Derived.Test.YteddbdmddgmicaaRefK
import Derived.Test.YteddbdmddgmicaaListsW
import Derived.Laws.Closers25b
namespace Go.Proofs.Yteddbdmddgmicaa
open Go.RowKit
set_option linter.unusedVariables false
set_option linter.unusedSimpArgs false

set_option maxHeartbeats 6400000 in
set_option maxRecDepth 100000 in
theorem NumMeans_walk (d : Int) (A : Option Addr) (l : List Int) (c : Nat) (w : World) (id : InI d) (hlc : l.length ≤ c) (hcm : c ≤ maxLen) (hil : ∀ x ∈ l, InI x) (hbl : ∀ ad, A = some ad → ad.block < w.heap.size ∨ l.length = 0)
    (hr : 0 < l.length → ∃ ad, A = some ad ∧ ∀ j u, l[j]? = some u → w.cell? (ad.add j) = some (.int .i64 u)) :
    Calls Try.prog 9 #[.int .i64 d, .slice A l.length c] w fun e w' => e = .returned (.bool true) ∧ Below w.heap.size w w' := by
  have hm1 : l.length ≤ 9223372036854775807 := by unfold maxLen at hcm; omega
  have hm2 : c ≤ 9223372036854775807 := by unfold maxLen at hcm; omega
  have HN : ∀ k n, InI k → (l.take 60).length = n → ∀ w', Below w.heap.size w w' → Calls Try.prog 29 #[.int .i64 k, .slice A n c] w' fun e w'' => e = .returned (.tuple #[.int .i64 (meanN k (l.take 60).sum), .bool (meanB k (l.take 60).sum)]) ∧ Below w'.heap.size w' w'' := by
    intro k n hk hn w' hb
    rw [← hn]
    exact FloorSum_any k A c (l.take 60) w' hk (by rw [List.length_take]; omega) (fun x hx => hil x (List.mem_of_mem_take hx)) (list_later hbl hr hb 60)
  have HS : ∀ k n, InI k → (l.take 60).length = n → ∀ w', Below w.heap.size w w' → Calls Try.prog 30 #[.int .i64 k, .slice A n c] w' fun e w'' => e = .returned (.tuple #[.int .i64 (meanN k (l.take 60).sum), .bool (meanB k (l.take 60).sum)]) ∧ Below w'.heap.size w' w'' := by
    intro k n hk hn w' hb
    rw [← hn]
    exact BFloorSum_any k A c (l.take 60) w' hk (by rw [List.length_take]; omega) (fun x hx => hil x (List.mem_of_mem_take hx)) (list_later hbl hr hb 60)
  have HL : (l.take 60).length = min 60 l.length := List.length_take
  have HN := Lib.hid HN
  have HS := Lib.hid HS
  have HL := Lib.hid HL
  clear hil hbl hr
  go_enter Try.func9, Try.ntmps9
  go_wp2_with fail
  have ix : InI (bits .and .i64 d 15) := ⟨bits_lo_i64 _ _ _, bits_hi_i64 _ _ _⟩
  generalize bits .and .i64 d 15 = x at ix ⊢
  go_loopw [21] (fun vi wr => ∃ i : Int, vi = .int .i64 i ∧ 0 ≤ i ∧ i ≤ 2 ∧ Blk wr w.heap.size 2 #[.int .i64 d, .int .i64 x] ∧ Below w.heap.size w wr) (fun vi _ => (2 - intOf vi).toNat)
  case atStart => exact ⟨0, rfl, by omega, by omega, Blk.new _ _ _, bl_alloc (Below.refl _ _) _⟩
  case round =>
    obtain ⟨i, rfl, h0, h2, hB, be⟩ := hrel
    have sz : w.heap.size < wr.heap.size := hB.lt
    have sc0 : wr.cell? ⟨w.heap.size, 0, none⟩ = some (.int .i64 d) := (hB.cell 0).trans rfl
    have sc1 : wr.cell? ⟨w.heap.size, 1, none⟩ = some (.int .i64 x) := (hB.cell 1).trans rfl
    rcases (by omega : i = 0 ∨ i = 1 ∨ i = 2) with rfl | rfl | rfl
    · go_wp2_with fail
      all_goals (
        refine (HN.out _ _ id (by rw [HL.out]; omega) _ be).mono ?_; rintro e v1 ⟨rfl, hb1⟩
        have bl1 := bl_step be hb1
        go_wp2_with fail
        refine (HS.out _ _ id (by rw [HL.out]; omega) _ bl1).mono ?_; rintro e v2 ⟨rfl, hb2⟩
        have bl2 := bl_step bl1 hb2
        go_wp2_with fail
        go_roundw
        case rel => exact ⟨_, rfl, by omega, by omega, (hB.below hb1).below hb2, bl2⟩
        case measure => simp only [intOf]; omega)
    · go_wp2_with fail
      all_goals (
        refine (HN.out _ _ ix (by rw [HL.out]; omega) _ be).mono ?_; rintro e v1 ⟨rfl, hb1⟩
        have bl1 := bl_step be hb1
        go_wp2_with fail
        refine (HS.out _ _ ix (by rw [HL.out]; omega) _ bl1).mono ?_; rintro e v2 ⟨rfl, hb2⟩
        have bl2 := bl_step bl1 hb2
        go_wp2_with fail
        go_roundw
        case rel => exact ⟨_, rfl, by omega, by omega, (hB.below hb1).below hb2, bl2⟩
        case measure => simp only [intOf]; omega)
    · go_wp2_with fail
      refine (wakes_any _).mono ?_; rintro e v3 ⟨rfl, hb3⟩
      have bl3 := bl_step be hb3
      go_wp2
      go_ret
      exact ⟨rfl, bl3⟩
end Go.Proofs.Yteddbdmddgmicaa
