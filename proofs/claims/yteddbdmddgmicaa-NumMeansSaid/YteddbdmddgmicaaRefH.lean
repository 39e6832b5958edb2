/- The walks of the reference for layer 1, part H: Sum, Gcd. -/
import Derived.Test.YteddbdmddgmicaaRefG
namespace Go.Proofs.Yteddbdmddgmicaa
open Go.RowKit
set_option linter.unusedVariables false
set_option linter.unusedSimpArgs false

theorem BigV.zero (w : World) : BigV w false none 0 0 0 := ⟨[], ⟨rfl, Nat.le_refl _, by omega, (fun d hd => by cases hd), RdT.nil_ _ _ _⟩, (fun hh => absurd rfl hh), by simp, by simp [dval]⟩
/-- How the rounds of a sum stand. -/
structure SumIn (w : World) (l : List Int) (k : Nat) (b : Nat) (wr : World) : Prop where
  kl : k ≤ l.length
  row : ∃ n A m c, Blk wr b 31 #[.bool n, .slice A m c] ∧ BigV wr n A m c ((l.take k).sum)
  be : Below w.heap.size w wr
theorem sm_sum (l : List Int) (hl : l.length ≤ 1000000) (h : ∀ x ∈ l, InI x) : Sm l.sum := by
  have := sum_bd l h
  exact sm_of (by omega) (by omega)
theorem sm_add {a b : Int} (h1 : -803469022129495137770981046170581301261101496891396417650688 < a) (h2 : a < 803469022129495137770981046170581301261101496891396417650688) (hb : InI b) : Sm (a + b) := sm_of (by have := hb.1; omega) (by have := hb.2; omega)

set_option maxHeartbeats 3200000 in
theorem BSum_any (A : Option Addr) (c : Nat) (l : List Int) (w : World) (hl : l.length ≤ 1000000) (hw : ∀ x ∈ l, InI x)
    (hr : 0 < l.length → ∃ ad, A = some ad ∧ ∀ j u, l[j]? = some u → w.cell? (ad.add j) = some (.int .i64 u)) :
    Calls Try.prog 28 #[.slice A l.length c] w fun e w' => e = .returned (.tuple #[.int .i64 (fitN l.sum), .bool (fitB l.sum)]) ∧ Below w.heap.size w w' := by
  have HR := Lib.hid hr
  have HW := Lib.hid hw
  clear hr hw
  go_enter Try.func28, Try.ntmps28
  go_wp2_with fail
  go_loopw [5] (fun i wr => ∃ k : Nat, i = .int .i64 k ∧ SumIn w l k w.heap.size wr) (fun i _ => l.length - (intOf i).toNat)
  case atStart => exact ⟨0, rfl, ⟨Nat.zero_le _, ⟨false, none, 0, 0, Blk.new _ _ _, BigV.zero _⟩, bl_alloc (Below.refl _ _) _⟩⟩
  case round =>
    obtain ⟨k, rfl, hk, ⟨n, A0, m, c0, hB, kW⟩, be⟩ := hrel
    have sz : w.heap.size < wr.heap.size := hB.lt
    have sc0 : wr.cell? ⟨w.heap.size, 0, none⟩ = some (.bool n) := (hB.cell 0).trans rfl
    have sf0 := hB.frozen 0
    have sc1 : wr.cell? ⟨w.heap.size, 1, none⟩ = some (.slice A0 m c0) := (hB.cell 1).trans rfl
    have sf1 := hB.frozen 1
    by_cases hlt : k < l.length
    · obtain ⟨ad, rfl, hcell⟩ := HR.out (by omega)
      have hx : wr.cell? (ad.add k) = some (.int .i64 l[k]) := by
        have h0 := hcell k l[k] (List.getElem?_eq_getElem hlt)
        exact (be.cell (World.block_lt_of_cell? w _ h0)).trans h0
      have hxi : InI l[k] := HW.out _ (List.getElem_mem hlt)
      have hs := sum_take l k hlt
      have hs1 := sm_sum (l.take k) (by rw [List.length_take]; omega) (fun x hx => HW.out x (List.mem_of_mem_take hx))
      have hs2 := sm_sum (l.take (k + 1)) (by rw [List.length_take]; omega) (fun x hx => HW.out x (List.mem_of_mem_take hx))
      generalize l[k] = x at hx hxi hs
      generalize (l.take k).sum = s at kW hs hs1
      have HS := Lib.hid hs
      clear hcell hs
      go_wp2_with fail
      refine (Of_any _ _ hxi).mono ?_; rintro e w1 ⟨n1, A1, m1, c1, rfl, k1, hb1⟩
      have hB1 := hB.below hb1
      have hk1 := kW.below hb1
      clear sz sc0 sf0 sc1 sf1
      have tz : w.heap.size < w1.heap.size := hB1.lt
      have tc0 : w1.cell? ⟨w.heap.size, 0, none⟩ = some (.bool n) := (hB1.cell 0).trans rfl
      have tf0 := hB1.frozen 0
      have tc1 : w1.cell? ⟨w.heap.size, 1, none⟩ = some (.slice A0 m c0) := (hB1.cell 1).trans rfl
      have tf1 := hB1.frozen 1
      have HA := Lib.hid (fun W hw => BAdd_any _ _ _ _ _ _ _ _ s x W (hk1.below hw) (k1.below hw) hs1 (sm_int hxi))
      go_wp2_with fail
      refine (HA.out _ (bl_alloc (Below.refl _ _) _)).mono ?_; rintro e w2 ⟨n2, A2, m2, c2, rfl, k2, hb2⟩
      have st2 := bl_step (bl_alloc (Below.refl _ _) _) hb2
      have hB2 := hB1.below st2
      clear tz tc0 tf0 tc1 tf1
      have uz : w.heap.size < w2.heap.size := hB2.lt
      have uc0 : w2.cell? ⟨w.heap.size, 0, none⟩ = some (.bool n) := (hB2.cell 0).trans rfl
      have uf0 := hB2.frozen 0
      have uc1 : w2.cell? ⟨w.heap.size, 1, none⟩ = some (.slice A0 m c0) := (hB2.cell 1).trans rfl
      have uf1 := hB2.frozen 1
      go_wp2
      go_roundw
      case rel =>
        refine ⟨k + 1, by go_num, ⟨by omega, ⟨n2, A2, m2, c2, (hB2.put 0 _ rfl).put 1 _ rfl, ?_⟩, ?_⟩⟩
        · rw [HS.out]
          exact (k2.set_ (p := ⟨w.heap.size, 0, none⟩) hB2 (by decide) _).set_ (p := ⟨w.heap.size, 1, none⟩) (hB2.put 0 _ rfl) (by decide) _
        · exact bl_set (bl_set (bl_step (bl_step be hb1) st2) (by simp) _) (by simp) _
      case measure => simp only [intOf]; omega
    · have hk1 : k = l.length := by omega
      have hks : (l.take k).sum = l.sum := by rw [hk1, List.take_of_length_le (Nat.le_refl _)]
      rw [hks] at kW
      have HS := Lib.hid (Short_any _ _ _ _ _ _ kW)
      clear hk1 hks
      go_wp2_with fail
      refine HS.out.mono ?_; rintro e w1 ⟨rfl, hb1⟩
      go_wp2
      go_ret2
      exact ⟨rfl, bl_step be hb1⟩
end Go.Proofs.Yteddbdmddgmicaa
