/- The walk of NumLists: the sum of every list is the document's, or there is none. -/
import Derived.Test.YteddbdmddgmicaaRefH
namespace Go.Proofs.Yteddbdmddgmicaa
open Go.RowKit
set_option linter.unusedVariables false
set_option linter.unusedSimpArgs false

/-- A part of a list of numbers in memory, in a later world. -/
theorem list_later {A : Option Addr} {l : List Int} {w w' : World} (hbl : ∀ ad, A = some ad → ad.block < w.heap.size ∨ l.length = 0)
    (hr : 0 < l.length → ∃ ad, A = some ad ∧ ∀ j u, l[j]? = some u → w.cell? (ad.add j) = some (.int .i64 u)) (hb : Below w.heap.size w w') (n : Nat) :
    0 < (l.take n).length → ∃ ad, A = some ad ∧ ∀ j u, (l.take n)[j]? = some u → w'.cell? (ad.add j) = some (.int .i64 u) := by
  intro h0
  have hl : 0 < l.length := by rw [List.length_take] at h0; omega
  obtain ⟨ad, e, hc⟩ := hr hl
  refine ⟨ad, e, fun j u hj => ?_⟩
  rw [List.getElem?_take] at hj
  split at hj
  · rw [hb.cell (by rw [show (ad.add j).block = ad.block by unfold Addr.add; split <;> rfl]; rcases hbl ad e with h | h; exact h; omega)]
    exact hc j u hj
  · cases hj

set_option maxHeartbeats 6400000 in
set_option maxRecDepth 100000 in
theorem NumLists_walk (A : Option Addr) (l : List Int) (c : Nat) (w : World) (hlc : l.length ≤ c) (hcm : c ≤ maxLen) (hil : ∀ x ∈ l, InI x) (hbl : ∀ ad, A = some ad → ad.block < w.heap.size ∨ l.length = 0)
    (hr : 0 < l.length → ∃ ad, A = some ad ∧ ∀ j u, l[j]? = some u → w.cell? (ad.add j) = some (.int .i64 u)) :
    Calls Try.prog 8 #[.slice A l.length c] w fun e w' => e = .returned (.bool true) ∧ Below w.heap.size w w' := by
  have hm1 : l.length ≤ 9223372036854775807 := by unfold maxLen at hcm; omega
  have hm2 : c ≤ 9223372036854775807 := by unfold maxLen at hcm; omega
  have HN : ∀ n, (l.take 100).length = n → ∀ w', Below w.heap.size w w' → Calls Try.prog 27 #[.slice A n c] w' fun e w'' => e = .returned (.tuple #[.int .i64 (fitN (l.take 100).sum), .bool (fitB (l.take 100).sum)]) ∧ Below w'.heap.size w' w'' := by
    intro n hn w' hb
    rw [← hn]
    exact NSum_any A c (l.take 100) w' (by rw [List.length_take]; omega) (fun x hx => hil x (List.mem_of_mem_take hx)) (list_later hbl hr hb 100)
  have HS : ∀ n, (l.take 100).length = n → ∀ w', Below w.heap.size w w' → Calls Try.prog 28 #[.slice A n c] w' fun e w'' => e = .returned (.tuple #[.int .i64 (fitN (l.take 100).sum), .bool (fitB (l.take 100).sum)]) ∧ Below w'.heap.size w' w'' := by
    intro n hn w' hb
    rw [← hn]
    exact BSum_any A c (l.take 100) w' (by rw [List.length_take]; omega) (fun x hx => hil x (List.mem_of_mem_take hx)) (list_later hbl hr hb 100)
  have HL : (l.take 100).length = min 100 l.length := List.length_take
  have HN := Lib.hid HN
  have HS := Lib.hid HS
  have HL := Lib.hid HL
  clear hil hbl hr
  go_enter Try.func8, Try.ntmps8
  go_wp2_with fail
  all_goals (
    refine (HN.out _ (by rw [HL.out]; omega) _ (Below.refl _ _)).mono ?_; rintro e v1 ⟨rfl, hb1⟩
    go_wp2_with fail
    refine (HS.out _ (by rw [HL.out]; omega) _ hb1).mono ?_; rintro e v2 ⟨rfl, hb2⟩
    have bl2 := bl_step hb1 hb2
    go_wp2_with fail
    refine (wakes_any _).mono ?_; rintro e v3 ⟨rfl, hb3⟩
    have bl3 := bl_step bl2 hb3
    go_wp2
    go_ret
    exact ⟨rfl, bl3⟩)
end Go.Proofs.Yteddbdmddgmicaa
