/- The walks of ratio, part S: what a chain is worth. -/
import Derived.Test.YtkdklmkcanjjfaaDoorBtw
namespace Go.Proofs.YtkdklmkcanjjfaaDoor
open Go.RowKit
set_option linter.unusedVariables false
set_option linter.unusedSimpArgs false
set_option maxRecDepth 100000

structure CfIn (L : List Int) (i : Int) (N D : Int) : Prop where
  n : N = (cf (L.drop (i + 1).toNat)).1
  d : D = (cf (L.drop (i + 1).toNat)).2
set_option maxHeartbeats 1600000 in
theorem steps_any (L : List Int) (g c : Nat) (w : World) (hf : Fits 9223372036854775807 L) (hx : ∀ x ∈ L, 0 ≤ x ∧ x ≤ 9223372036854775807) (hlc : L.length ≤ c) (hcm : c ≤ 9223372036854775807)
    (hc : ∀ (j : Nat) (x : Int), L[j]? = some x → w.cell? ⟨g, j, none⟩ = some (.int .i64 x)) (hg : g < w.heap.size) :
    Calls Tryd.prog 79 #[.slice (some ⟨g, 0, none⟩) L.length c] w fun e w' => e = .returned (.agg #[.int .i64 (cf L).1, .int .i64 (cf L).2]) ∧ Below w.heap.size w w' := by
  have HF := Lib.hid hf
  have HX := Lib.hid hx
  have HC := Lib.hid hc
  have hlm : L.length ≤ 9223372036854775807 := by omega
  clear hf hx hc
  go_enter Tryd.func79, Tryd.ntmps79
  go_wp2_with fail
  go_loopw [3, 4, 5] (fun vn vd vi wr => ∃ N D i : Int, vn = .int .i64 N ∧ vd = .int .i64 D ∧ vi = .int .i64 i ∧ -1 ≤ i ∧ i < L.length ∧ CfIn L i N D ∧ Blk wr w.heap.size 23 #[.int .i64 0, .int .i64 0] ∧ Below w.heap.size w wr) (fun _ _ vi _ => (intOf vi + 1).toNat)
  case atStart =>
    refine ⟨1, 0, _, rfl, rfl, rfl, by omega, by omega, ⟨?_, ?_⟩, Blk.new _ _ _, bl_alloc (Below.refl _ _) _⟩
    · rw [show ((L.length : Int) - 1 + 1).toNat = L.length by omega, List.drop_length]; rfl
    · rw [show ((L.length : Int) - 1 + 1).toNat = L.length by omega, List.drop_length]; rfl
  case round =>
    obtain ⟨N, D, i, rfl, rfl, rfl, h1, h2, hcf, hB, be⟩ := hrel
    have r_z : w.heap.size < wr.heap.size := hB.lt
    have r_c0 : wr.cell? ⟨w.heap.size, 0, none⟩ = some (.int .i64 0) := (hB.cell 0).trans rfl
    have r_f0 := hB.frozen 0
    have r_c1 : wr.cell? ⟨w.heap.size, 1, none⟩ = some (.int .i64 0) := (hB.cell 1).trans rfl
    have r_f1 := hB.frozen 1
    by_cases h0 : 0 ≤ i
    · obtain ⟨k, rfl⟩ : ∃ k : Nat, i = k := ⟨i.toNat, by omega⟩
      have hk : k < L.length := by omega
      have hxv := HX.out L[k] (List.getElem_mem hk)
      have gx : wr.cell? ⟨g, k, none⟩ = some (.int .i64 L[k]) := (be.cell hg).trans (HC.out k L[k] (List.getElem?_eq_getElem hk))
      have hd : L.drop k = L[k] :: L.drop (k + 1) := List.drop_eq_getElem_cons hk
      have f1 := HF.out k
      have f2 := HF.out (k + 1)
      obtain ⟨hn, hdd⟩ := hcf
      rw [show ((k : Int) + 1).toNat = k + 1 by omega] at hn hdd
      rw [hd] at f1
      have e1 : (cf (L[k] :: L.drop (k + 1))).1 = L[k] * N + D := by rw [hn, hdd]; rfl
      rw [e1] at f1
      rw [← hn, ← hdd] at f2
      have HN : Hid (L[k] * N + D = (cf (L.drop k)).1 ∧ N = (cf (L.drop k)).2) := Lib.hid ⟨by rw [hd, e1], by rw [hd]; exact hn⟩
      have hp0 : 0 ≤ L[k] * N := Int.mul_nonneg hxv.1 f2.1
      clear hn hdd hd e1
      generalize L[k] = x at *
      obtain ⟨P, hP⟩ : ∃ P, x * N = P := ⟨_, rfl⟩
      rw [hP] at f1 hp0 HN
      obtain ⟨a1, a2, a3, a4⟩ := f1
      obtain ⟨b1, b2, b3, b4⟩ := f2
      obtain ⟨x1, x2⟩ := hxv
      have hw1 : IntKind.i64.wrap P = P := wrap_id ⟨by omega, by omega⟩
      have hw2 : IntKind.i64.wrap (P + D) = P + D := wrap_id ⟨by omega, by omega⟩
      go_wp2_with fail
      go_roundw
      case rel =>
        refine ⟨P + D, N, (k : Int) - 1, by go_num, by go_num, by go_num, by omega, by omega, ⟨?_, ?_⟩, hB, be⟩
        · rw [show ((k : Int) - 1 + 1).toNat = k by omega]; exact HN.out.1
        · rw [show ((k : Int) - 1 + 1).toNat = k by omega]; exact HN.out.2
      case measure => simp only [intOf]; omega
    · have hi : i = -1 := by omega
      obtain ⟨hn, hdd⟩ := hcf
      rw [hi] at hn hdd
      have HE : Hid (N = (cf L).1 ∧ D = (cf L).2) := Lib.hid ⟨hn, hdd⟩
      clear hn hdd hi
      go_wp2
      refine bodyPost_ret (v := .agg #[.int .i64 N, .int .i64 D]) (by simp [results, Tryd.results79, go_sem, r_c0, r_f0, r_c1, r_f1]) rfl ⟨by rw [HE.out.1, HE.out.2], ?_⟩
      (repeat (first | exact Below.refl _ _ | with_reducible assumption | refine bl_alloc ?_ _ | refine bl_set ?_ (by simp <;> omega) _ | refine bl_drew ?_ | refine bl_drewN ?_ _ | refine bl_step ?_ (by assumption)))
end Go.Proofs.YtkdklmkcanjjfaaDoor
