/- The walks of the reference for layer 1, part K: FloorSum. -/
import Derived.Test.YteddbdmddgmicaaRefH
import Derived.Test.YteddbdmddgmicaaNumJ
namespace Go.Proofs.Yteddbdmddgmicaa
open Go.RowKit
set_option linter.unusedVariables false
set_option linter.unusedSimpArgs false

theorem BFloorSum_no (d : Int) (A : Option Addr) (m c : Nat) (w : World) (hd : d ≤ 0) :
    Calls Try.prog 30 #[.int .i64 d, .slice A m c] w fun e w' => e = .returned (.tuple #[.int .i64 0, .bool false]) ∧ Below w.heap.size w w' := by
  go_enter Try.func30, Try.ntmps30
  go_wp2_with fail
  go_ret2
  exact ⟨rfl, Below.refl _ _⟩
theorem c3_lt (x y : Int) : cmp3 x y < 0 ↔ x < y := by
  unfold cmp3
  by_cases h : x < y
  · rw [if_pos h]; simp [h]
  · rw [if_neg h]; constructor
    · intro h2; split at h2 <;> omega
    · intro h2; exact absurd h2 h
theorem c3_ge (x y : Int) : 0 ≤ cmp3 x y ↔ y ≤ x := by
  have := c3_lt x y
  have h3 : cmp3 x y < 0 ∨ 0 ≤ cmp3 x y := by omega
  omega
theorem c3_le (x y : Int) : cmp3 x y ≤ 0 ↔ x ≤ y := by
  unfold cmp3
  by_cases h : x < y
  · rw [if_pos h]; constructor
    · intro _; omega
    · intro _; decide
  · rw [if_neg h]; constructor
    · intro h2; split at h2 <;> omega
    · intro h2; rw [if_pos (by omega)]; decide
theorem mid (x y : Int) (hx : -9223372036854775808 ≤ x) (hy : y ≤ 9223372036854775807) (h : x < y) : ∃ a p b q t : Int, x.tdiv 2 = a ∧ x.tmod 2 = p ∧ y.tdiv 2 = b ∧ y.tmod 2 = q ∧ (p + q + 1).tdiv 2 = t ∧
    -4611686018427387904 ≤ a ∧ a ≤ 4611686018427387903 ∧ -4611686018427387904 ≤ b ∧ b ≤ 4611686018427387903 ∧ -1 ≤ p ∧ p ≤ 1 ∧ -1 ≤ q ∧ q ≤ 1 ∧ -1 ≤ t ∧ t ≤ 1 ∧ x < a + b + t ∧ a + b + t ≤ y := by
  have tw : ∀ z : Int, z.tdiv 2 * 2 + z.tmod 2 = z ∧ -1 ≤ z.tmod 2 ∧ z.tmod 2 ≤ 1 ∧ (0 ≤ z → 0 ≤ z.tmod 2) ∧ (z ≤ 0 → z.tmod 2 ≤ 0) := by
    intro z
    have h1 := Int.mul_tdiv_add_tmod z 2
    have h2 : z.tmod 2 = if 0 ≤ z then z % 2 else -((-z) % 2) := by
      split
      · exact Int.tmod_eq_emod_of_nonneg ‹_›
      · have : z.tmod 2 = -((-z).tmod 2) := by rw [Int.neg_tmod, Int.neg_neg]
        rw [this, Int.tmod_eq_emod_of_nonneg (by omega)]
    split at h2 <;> omega
  have h1 := tw x
  have h2 := tw y
  have h3 := tw (x.tmod 2 + y.tmod 2 + 1)
  refine ⟨_, _, _, _, _, rfl, rfl, rfl, rfl, rfl, ?_⟩
  omega
/-- How the rounds of the search stand: the number and the divisor, as they lie. -/
structure BisIn (w : World) (b1 b2 : Nat) (n : Bool) (A : Option Addr) (m c : Nat) (S : Int) (n1 : Bool) (A1 : Option Addr) (m1 c1 : Nat) (d : Int) (wr : World) : Prop where
  bs : Blk wr b1 31 #[.bool n, .slice A m c]
  ks : BigV wr n A m c S
  bb : Blk wr b2 31 #[.bool n1, .slice A1 m1 c1]
  kb : BigV wr n1 A1 m1 c1 d
  be : Below w.heap.size w wr
theorem fit_out {z : Int} (h : z < -9223372036854775808 ∨ 9223372036854775807 + 1 ≤ z) : fitN z = 0 ∧ fitB z = false := ⟨if_neg (by omega), decide_eq_false (by omega)⟩
set_option maxHeartbeats 6400000 in
theorem BFloorSum_yes (d : Int) (A : Option Addr) (c : Nat) (l : List Int) (w : World) (hd : 0 < d) (id : InI d) (hl : l.length ≤ 1000000) (hw : ∀ x ∈ l, InI x)
    (hr : 0 < l.length → ∃ ad, A = some ad ∧ ∀ j u, l[j]? = some u → w.cell? (ad.add j) = some (.int .i64 u)) :
    Calls Try.prog 30 #[.int .i64 d, .slice A l.length c] w fun e w' => e = .returned (.tuple #[.int .i64 (fitN (l.sum / d)), .bool (fitB (l.sum / d))]) ∧ Below w.heap.size w w' := by
  have HR := Lib.hid hr
  have HW := Lib.hid hw
  have hdl := id.2
  clear hr hw
  go_enter Try.func30, Try.ntmps30
  go_wp2_with fail
  go_loopw [7] (fun i wr => ∃ k : Nat, i = .int .i64 k ∧ SumIn w l k w.heap.size wr) (fun i _ => l.length - (intOf i).toNat)
  case atStart => exact ⟨0, rfl, ⟨Nat.zero_le _, ⟨false, none, 0, 0, Blk.new _ _ _, BigV.zero _⟩, bl_alloc (Below.refl _ _) _⟩⟩
  case round =>
    obtain ⟨k, rfl, hk, ⟨n, A0, m, c0, hB, kW⟩, be⟩ := hrel
    have sz : w.heap.size < wr.heap.size := hB.lt
    have sc0 : wr.cell? ⟨w.heap.size, 0, none⟩ = some (.bool n) := (hB.cell 0).trans rfl
    have sf0 := hB.frozen 0
    have sc1 : wr.cell? ⟨w.heap.size, 1, none⟩ = some (.slice A0 m c0) := (hB.cell 1).trans rfl
    have sf1 := hB.frozen 1
    by_cases hlt : k < l.length
    · obtain ⟨ad, rfl, hcell⟩ := HR.out (by omega)
      have hx : wr.cell? (ad.add k) = some (.int .i64 l[k]) := by
        have h0 := hcell k l[k] (List.getElem?_eq_getElem hlt)
        exact (be.cell (World.block_lt_of_cell? w _ h0)).trans h0
      have hxi : InI l[k] := HW.out _ (List.getElem_mem hlt)
      have hs := sum_take l k hlt
      have hs1 := sm_sum (l.take k) (by rw [List.length_take]; omega) (fun x hx => HW.out x (List.mem_of_mem_take hx))
      have hs2 := sm_sum (l.take (k + 1)) (by rw [List.length_take]; omega) (fun x hx => HW.out x (List.mem_of_mem_take hx))
      generalize l[k] = x at hx hxi hs
      generalize (l.take k).sum = s at kW hs hs1
      have HS := Lib.hid hs
      clear hcell hs
      go_wp2_with fail
      refine (Of_any _ _ hxi).mono ?_; rintro e w1 ⟨n1, A1, m1, c1, rfl, k1, hb1⟩
      have hB1 := hB.below hb1
      have hk1 := kW.below hb1
      clear sz sc0 sf0 sc1 sf1
      have tz : w.heap.size < w1.heap.size := hB1.lt
      have tc0 : w1.cell? ⟨w.heap.size, 0, none⟩ = some (.bool n) := (hB1.cell 0).trans rfl
      have tf0 := hB1.frozen 0
      have tc1 : w1.cell? ⟨w.heap.size, 1, none⟩ = some (.slice A0 m c0) := (hB1.cell 1).trans rfl
      have tf1 := hB1.frozen 1
      have HA := Lib.hid (fun W hw => BAdd_any _ _ _ _ _ _ _ _ s x W (hk1.below hw) (k1.below hw) hs1 (sm_int hxi))
      go_wp2_with fail
      refine (HA.out _ (bl_alloc (Below.refl _ _) _)).mono ?_; rintro e w2 ⟨n2, A2, m2, c2, rfl, k2, hb2⟩
      have st2 := bl_step (bl_alloc (Below.refl _ _) _) hb2
      have hB2 := hB1.below st2
      clear tz tc0 tf0 tc1 tf1
      have uz : w.heap.size < w2.heap.size := hB2.lt
      have uc0 : w2.cell? ⟨w.heap.size, 0, none⟩ = some (.bool n) := (hB2.cell 0).trans rfl
      have uf0 := hB2.frozen 0
      have uc1 : w2.cell? ⟨w.heap.size, 1, none⟩ = some (.slice A0 m c0) := (hB2.cell 1).trans rfl
      have uf1 := hB2.frozen 1
      go_wp2
      go_roundw
      case rel =>
        refine ⟨k + 1, by go_num, ⟨by omega, ⟨n2, A2, m2, c2, (hB2.put 0 _ rfl).put 1 _ rfl, ?_⟩, ?_⟩⟩
        · rw [HS.out]
          exact (k2.set_ (p := ⟨w.heap.size, 0, none⟩) hB2 (by decide) _).set_ (p := ⟨w.heap.size, 1, none⟩) (hB2.put 0 _ rfl) (by decide) _
        · exact bl_set (bl_set (bl_step (bl_step be hb1) st2) (by simp) _) (by simp) _
      case measure => simp only [intOf]; omega
    · have hk1 : k = l.length := by omega
      have hks : (l.take k).sum = l.sum := by rw [hk1, List.take_of_length_le (Nat.le_refl _)]
      rw [hks] at kW
      clear hk1 hks
      have HM : Hid (Sm (-9223372036854775808) ∧ Sm d ∧ Sm 9223372036854775807 ∧ Sm 1 ∧ Sm (9223372036854775807 + 1)) := Lib.hid ⟨sm_of (by omega) (by omega), sm_int id, sm_of (by omega) (by omega), sm_of (by omega) (by omega), sm_of (by omega) (by omega)⟩
      go_wp2_with fail
      refine (Of_any _ _ id).mono ?_; rintro e v1 ⟨n1, A1, m1, c1, rfl, k1, hb1⟩
      have st1 := bl_step (Below.refl _ _) hb1
      have bl1 := st1
      clear sz sc0 sf0 sc1 sf1
      have Bs_1 := hB.below st1
      have s_1_z : w.heap.size < v1.heap.size := Bs_1.lt
      have s_1_c0 : v1.cell? ⟨w.heap.size, 0, none⟩ = some (.bool n) := (Bs_1.cell 0).trans rfl
      have s_1_f0 := Bs_1.frozen 0
      have s_1_c1 : v1.cell? ⟨w.heap.size, 1, none⟩ = some (.slice A0 m c0) := (Bs_1.cell 1).trans rfl
      have s_1_f1 := Bs_1.frozen 1
      have ks_1 := kW.below st1
      go_wp2_with fail
      refine (Of_any _ _ (⟨by omega, by omega⟩)).mono ?_; rintro e v2 ⟨n2, A2, m2, c2, rfl, k2, hb2⟩
      have st2 := bl_step (bl_alloc (Below.refl _ _) _) hb2
      have bl2 := bl_step bl1 st2
      have Bby_2 : Blk v2 (v1.heap.size) 31 #[.bool n1, .slice A1 m1 c1] := (Blk.new _ _ _).below hb2
      clear s_1_z s_1_c0 s_1_f0 s_1_c1 s_1_f1
      have Bs_2 := Bs_1.below st2
      have s_2_z : w.heap.size < v2.heap.size := Bs_2.lt
      have s_2_c0 : v2.cell? ⟨w.heap.size, 0, none⟩ = some (.bool n) := (Bs_2.cell 0).trans rfl
      have s_2_f0 := Bs_2.frozen 0
      have s_2_c1 : v2.cell? ⟨w.heap.size, 1, none⟩ = some (.slice A0 m c0) := (Bs_2.cell 1).trans rfl
      have s_2_f1 := Bs_2.frozen 1
      have by_2_z : v1.heap.size < v2.heap.size := Bby_2.lt
      have by_2_c0 : v2.cell? ⟨v1.heap.size, 0, none⟩ = some (.bool n1) := (Bby_2.cell 0).trans rfl
      have by_2_f0 := Bby_2.frozen 0
      have by_2_c1 : v2.cell? ⟨v1.heap.size, 1, none⟩ = some (.slice A1 m1 c1) := (Bby_2.cell 1).trans rfl
      have by_2_f1 := Bby_2.frozen 1
      have ks_2 := ks_1.below st2
      have kby_2 := k1.below st2
      go_wp2_with fail
      refine (Of_any _ _ (⟨by omega, by omega⟩)).mono ?_; rintro e v3 ⟨n3, A3, m3, c3, rfl, k3, hb3⟩
      have st3 := bl_step (bl_alloc (Below.refl _ _) _) hb3
      have bl3 := bl_step bl2 st3
      have Blow_3 : Blk v3 (v2.heap.size) 31 #[.bool n2, .slice A2 m2 c2] := (Blk.new _ _ _).below hb3
      clear s_2_z s_2_c0 s_2_f0 s_2_c1 s_2_f1
      have Bs_3 := Bs_2.below st3
      clear by_2_z by_2_c0 by_2_f0 by_2_c1 by_2_f1
      have Bby_3 := Bby_2.below st3
      have s_3_z : w.heap.size < v3.heap.size := Bs_3.lt
      have s_3_c0 : v3.cell? ⟨w.heap.size, 0, none⟩ = some (.bool n) := (Bs_3.cell 0).trans rfl
      have s_3_f0 := Bs_3.frozen 0
      have s_3_c1 : v3.cell? ⟨w.heap.size, 1, none⟩ = some (.slice A0 m c0) := (Bs_3.cell 1).trans rfl
      have s_3_f1 := Bs_3.frozen 1
      have by_3_z : v1.heap.size < v3.heap.size := Bby_3.lt
      have by_3_c0 : v3.cell? ⟨v1.heap.size, 0, none⟩ = some (.bool n1) := (Bby_3.cell 0).trans rfl
      have by_3_f0 := Bby_3.frozen 0
      have by_3_c1 : v3.cell? ⟨v1.heap.size, 1, none⟩ = some (.slice A1 m1 c1) := (Bby_3.cell 1).trans rfl
      have by_3_f1 := Bby_3.frozen 1
      have low_3_z : v2.heap.size < v3.heap.size := Blow_3.lt
      have low_3_c0 : v3.cell? ⟨v2.heap.size, 0, none⟩ = some (.bool n2) := (Blow_3.cell 0).trans rfl
      have low_3_f0 := Blow_3.frozen 0
      have low_3_c1 : v3.cell? ⟨v2.heap.size, 1, none⟩ = some (.slice A2 m2 c2) := (Blow_3.cell 1).trans rfl
      have low_3_f1 := Blow_3.frozen 1
      have ks_3 := ks_2.below st3
      have kby_3 := kby_2.below st3
      have klow_3 := k2.below st3
      go_wp2_with fail
      refine (Of_any _ _ (⟨by omega, by omega⟩)).mono ?_; rintro e v4 ⟨n4, A4, m4, c4, rfl, k4, hb4⟩
      have st4 := bl_step (bl_alloc (Below.refl _ _) _) hb4
      have bl4 := bl_step bl3 st4
      have Bhigh_4 : Blk v4 (v3.heap.size) 31 #[.bool n3, .slice A3 m3 c3] := (Blk.new _ _ _).below hb4
      clear s_3_z s_3_c0 s_3_f0 s_3_c1 s_3_f1
      have Bs_4 := Bs_3.below st4
      clear by_3_z by_3_c0 by_3_f0 by_3_c1 by_3_f1
      have Bby_4 := Bby_3.below st4
      clear low_3_z low_3_c0 low_3_f0 low_3_c1 low_3_f1
      have Blow_4 := Blow_3.below st4
      have s_4_z : w.heap.size < v4.heap.size := Bs_4.lt
      have s_4_c0 : v4.cell? ⟨w.heap.size, 0, none⟩ = some (.bool n) := (Bs_4.cell 0).trans rfl
      have s_4_f0 := Bs_4.frozen 0
      have s_4_c1 : v4.cell? ⟨w.heap.size, 1, none⟩ = some (.slice A0 m c0) := (Bs_4.cell 1).trans rfl
      have s_4_f1 := Bs_4.frozen 1
      have by_4_z : v1.heap.size < v4.heap.size := Bby_4.lt
      have by_4_c0 : v4.cell? ⟨v1.heap.size, 0, none⟩ = some (.bool n1) := (Bby_4.cell 0).trans rfl
      have by_4_f0 := Bby_4.frozen 0
      have by_4_c1 : v4.cell? ⟨v1.heap.size, 1, none⟩ = some (.slice A1 m1 c1) := (Bby_4.cell 1).trans rfl
      have by_4_f1 := Bby_4.frozen 1
      have low_4_z : v2.heap.size < v4.heap.size := Blow_4.lt
      have low_4_c0 : v4.cell? ⟨v2.heap.size, 0, none⟩ = some (.bool n2) := (Blow_4.cell 0).trans rfl
      have low_4_f0 := Blow_4.frozen 0
      have low_4_c1 : v4.cell? ⟨v2.heap.size, 1, none⟩ = some (.slice A2 m2 c2) := (Blow_4.cell 1).trans rfl
      have low_4_f1 := Blow_4.frozen 1
      have high_4_z : v3.heap.size < v4.heap.size := Bhigh_4.lt
      have high_4_c0 : v4.cell? ⟨v3.heap.size, 0, none⟩ = some (.bool n3) := (Bhigh_4.cell 0).trans rfl
      have high_4_f0 := Bhigh_4.frozen 0
      have high_4_c1 : v4.cell? ⟨v3.heap.size, 1, none⟩ = some (.slice A3 m3 c3) := (Bhigh_4.cell 1).trans rfl
      have high_4_f1 := Bhigh_4.frozen 1
      have ks_4 := ks_3.below st4
      have kby_4 := kby_3.below st4
      have klow_4 := klow_3.below st4
      have khigh_4 := k3.below st4
      go_wp2_with fail
      refine (BMul_any _ _ _ _ _ _ _ _ _ _ _ (klow_4.below (bl_alloc (Below.refl _ _) _)) (kby_4.below (bl_alloc (Below.refl _ _) _)) HM.out.1 HM.out.2.1).mono ?_; rintro e v5 ⟨n5, A5, m5, c5, rfl, k5, hb5⟩
      have st5 := bl_step (bl_alloc (Below.refl _ _) _) hb5
      have bl5 := bl_step bl4 st5
      have Bone_5 : Blk v5 (v4.heap.size) 31 #[.bool n4, .slice A4 m4 c4] := (Blk.new _ _ _).below hb5
      clear s_4_z s_4_c0 s_4_f0 s_4_c1 s_4_f1
      have Bs_5 := Bs_4.below st5
      clear by_4_z by_4_c0 by_4_f0 by_4_c1 by_4_f1
      have Bby_5 := Bby_4.below st5
      clear low_4_z low_4_c0 low_4_f0 low_4_c1 low_4_f1
      have Blow_5 := Blow_4.below st5
      clear high_4_z high_4_c0 high_4_f0 high_4_c1 high_4_f1
      have Bhigh_5 := Bhigh_4.below st5
      have s_5_z : w.heap.size < v5.heap.size := Bs_5.lt
      have s_5_c0 : v5.cell? ⟨w.heap.size, 0, none⟩ = some (.bool n) := (Bs_5.cell 0).trans rfl
      have s_5_f0 := Bs_5.frozen 0
      have s_5_c1 : v5.cell? ⟨w.heap.size, 1, none⟩ = some (.slice A0 m c0) := (Bs_5.cell 1).trans rfl
      have s_5_f1 := Bs_5.frozen 1
      have by_5_z : v1.heap.size < v5.heap.size := Bby_5.lt
      have by_5_c0 : v5.cell? ⟨v1.heap.size, 0, none⟩ = some (.bool n1) := (Bby_5.cell 0).trans rfl
      have by_5_f0 := Bby_5.frozen 0
      have by_5_c1 : v5.cell? ⟨v1.heap.size, 1, none⟩ = some (.slice A1 m1 c1) := (Bby_5.cell 1).trans rfl
      have by_5_f1 := Bby_5.frozen 1
      have low_5_z : v2.heap.size < v5.heap.size := Blow_5.lt
      have low_5_c0 : v5.cell? ⟨v2.heap.size, 0, none⟩ = some (.bool n2) := (Blow_5.cell 0).trans rfl
      have low_5_f0 := Blow_5.frozen 0
      have low_5_c1 : v5.cell? ⟨v2.heap.size, 1, none⟩ = some (.slice A2 m2 c2) := (Blow_5.cell 1).trans rfl
      have low_5_f1 := Blow_5.frozen 1
      have high_5_z : v3.heap.size < v5.heap.size := Bhigh_5.lt
      have high_5_c0 : v5.cell? ⟨v3.heap.size, 0, none⟩ = some (.bool n3) := (Bhigh_5.cell 0).trans rfl
      have high_5_f0 := Bhigh_5.frozen 0
      have high_5_c1 : v5.cell? ⟨v3.heap.size, 1, none⟩ = some (.slice A3 m3 c3) := (Bhigh_5.cell 1).trans rfl
      have high_5_f1 := Bhigh_5.frozen 1
      have one_5_z : v4.heap.size < v5.heap.size := Bone_5.lt
      have one_5_c0 : v5.cell? ⟨v4.heap.size, 0, none⟩ = some (.bool n4) := (Bone_5.cell 0).trans rfl
      have one_5_f0 := Bone_5.frozen 0
      have one_5_c1 : v5.cell? ⟨v4.heap.size, 1, none⟩ = some (.slice A4 m4 c4) := (Bone_5.cell 1).trans rfl
      have one_5_f1 := Bone_5.frozen 1
      have ks_5 := ks_4.below st5
      have kby_5 := kby_4.below st5
      have klow_5 := klow_4.below st5
      have khigh_5 := khigh_4.below st5
      have kone_5 := k4.below st5
      go_wp2_with fail
      refine (BAdd_any _ _ _ _ _ _ _ _ _ _ _ (khigh_5.below (bl_alloc (Below.refl _ _) _)) (kone_5.below (bl_alloc (Below.refl _ _) _)) HM.out.2.2.1 HM.out.2.2.2.1).mono ?_; rintro e v6 ⟨n6, A6, m6, c6, rfl, k6, hb6⟩
      have st6 := bl_step (bl_alloc (Below.refl _ _) _) hb6
      have bl6 := bl_step bl5 st6
      have Bleast_6 : Blk v6 (v5.heap.size) 31 #[.bool n5, .slice A5 m5 c5] := (Blk.new _ _ _).below hb6
      clear s_5_z s_5_c0 s_5_f0 s_5_c1 s_5_f1
      have Bs_6 := Bs_5.below st6
      clear by_5_z by_5_c0 by_5_f0 by_5_c1 by_5_f1
      have Bby_6 := Bby_5.below st6
      clear low_5_z low_5_c0 low_5_f0 low_5_c1 low_5_f1
      have Blow_6 := Blow_5.below st6
      clear high_5_z high_5_c0 high_5_f0 high_5_c1 high_5_f1
      have Bhigh_6 := Bhigh_5.below st6
      clear one_5_z one_5_c0 one_5_f0 one_5_c1 one_5_f1
      have Bone_6 := Bone_5.below st6
      have s_6_z : w.heap.size < v6.heap.size := Bs_6.lt
      have s_6_c0 : v6.cell? ⟨w.heap.size, 0, none⟩ = some (.bool n) := (Bs_6.cell 0).trans rfl
      have s_6_f0 := Bs_6.frozen 0
      have s_6_c1 : v6.cell? ⟨w.heap.size, 1, none⟩ = some (.slice A0 m c0) := (Bs_6.cell 1).trans rfl
      have s_6_f1 := Bs_6.frozen 1
      have by_6_z : v1.heap.size < v6.heap.size := Bby_6.lt
      have by_6_c0 : v6.cell? ⟨v1.heap.size, 0, none⟩ = some (.bool n1) := (Bby_6.cell 0).trans rfl
      have by_6_f0 := Bby_6.frozen 0
      have by_6_c1 : v6.cell? ⟨v1.heap.size, 1, none⟩ = some (.slice A1 m1 c1) := (Bby_6.cell 1).trans rfl
      have by_6_f1 := Bby_6.frozen 1
      have low_6_z : v2.heap.size < v6.heap.size := Blow_6.lt
      have low_6_c0 : v6.cell? ⟨v2.heap.size, 0, none⟩ = some (.bool n2) := (Blow_6.cell 0).trans rfl
      have low_6_f0 := Blow_6.frozen 0
      have low_6_c1 : v6.cell? ⟨v2.heap.size, 1, none⟩ = some (.slice A2 m2 c2) := (Blow_6.cell 1).trans rfl
      have low_6_f1 := Blow_6.frozen 1
      have high_6_z : v3.heap.size < v6.heap.size := Bhigh_6.lt
      have high_6_c0 : v6.cell? ⟨v3.heap.size, 0, none⟩ = some (.bool n3) := (Bhigh_6.cell 0).trans rfl
      have high_6_f0 := Bhigh_6.frozen 0
      have high_6_c1 : v6.cell? ⟨v3.heap.size, 1, none⟩ = some (.slice A3 m3 c3) := (Bhigh_6.cell 1).trans rfl
      have high_6_f1 := Bhigh_6.frozen 1
      have one_6_z : v4.heap.size < v6.heap.size := Bone_6.lt
      have one_6_c0 : v6.cell? ⟨v4.heap.size, 0, none⟩ = some (.bool n4) := (Bone_6.cell 0).trans rfl
      have one_6_f0 := Bone_6.frozen 0
      have one_6_c1 : v6.cell? ⟨v4.heap.size, 1, none⟩ = some (.slice A4 m4 c4) := (Bone_6.cell 1).trans rfl
      have one_6_f1 := Bone_6.frozen 1
      have least_6_z : v5.heap.size < v6.heap.size := Bleast_6.lt
      have least_6_c0 : v6.cell? ⟨v5.heap.size, 0, none⟩ = some (.bool n5) := (Bleast_6.cell 0).trans rfl
      have least_6_f0 := Bleast_6.frozen 0
      have least_6_c1 : v6.cell? ⟨v5.heap.size, 1, none⟩ = some (.slice A5 m5 c5) := (Bleast_6.cell 1).trans rfl
      have least_6_f1 := Bleast_6.frozen 1
      have ks_6 := ks_5.below st6
      have kby_6 := kby_5.below st6
      have klow_6 := klow_5.below st6
      have khigh_6 := khigh_5.below st6
      have kone_6 := kone_5.below st6
      have kleast_6 := k5.below st6
      go_wp2_with fail
      refine (BMul_any _ _ _ _ _ _ _ _ _ _ _ (k6.below (bl_alloc (Below.refl _ _) _)) (kby_6.below (bl_alloc (Below.refl _ _) _)) HM.out.2.2.2.2 HM.out.2.1).mono ?_; rintro e v7 ⟨n7, A7, m7, c7, rfl, k7, hb7⟩
      have st7 := bl_step (bl_alloc (Below.refl _ _) _) hb7
      have bl7 := bl_step bl6 st7
      have Babove_7 : Blk v7 (v6.heap.size) 31 #[.bool n6, .slice A6 m6 c6] := (Blk.new _ _ _).below hb7
      clear s_6_z s_6_c0 s_6_f0 s_6_c1 s_6_f1
      have Bs_7 := Bs_6.below st7
      clear by_6_z by_6_c0 by_6_f0 by_6_c1 by_6_f1
      have Bby_7 := Bby_6.below st7
      clear low_6_z low_6_c0 low_6_f0 low_6_c1 low_6_f1
      have Blow_7 := Blow_6.below st7
      clear high_6_z high_6_c0 high_6_f0 high_6_c1 high_6_f1
      have Bhigh_7 := Bhigh_6.below st7
      clear one_6_z one_6_c0 one_6_f0 one_6_c1 one_6_f1
      have Bone_7 := Bone_6.below st7
      clear least_6_z least_6_c0 least_6_f0 least_6_c1 least_6_f1
      have Bleast_7 := Bleast_6.below st7
      have s_7_z : w.heap.size < v7.heap.size := Bs_7.lt
      have s_7_c0 : v7.cell? ⟨w.heap.size, 0, none⟩ = some (.bool n) := (Bs_7.cell 0).trans rfl
      have s_7_f0 := Bs_7.frozen 0
      have s_7_c1 : v7.cell? ⟨w.heap.size, 1, none⟩ = some (.slice A0 m c0) := (Bs_7.cell 1).trans rfl
      have s_7_f1 := Bs_7.frozen 1
      have by_7_z : v1.heap.size < v7.heap.size := Bby_7.lt
      have by_7_c0 : v7.cell? ⟨v1.heap.size, 0, none⟩ = some (.bool n1) := (Bby_7.cell 0).trans rfl
      have by_7_f0 := Bby_7.frozen 0
      have by_7_c1 : v7.cell? ⟨v1.heap.size, 1, none⟩ = some (.slice A1 m1 c1) := (Bby_7.cell 1).trans rfl
      have by_7_f1 := Bby_7.frozen 1
      have low_7_z : v2.heap.size < v7.heap.size := Blow_7.lt
      have low_7_c0 : v7.cell? ⟨v2.heap.size, 0, none⟩ = some (.bool n2) := (Blow_7.cell 0).trans rfl
      have low_7_f0 := Blow_7.frozen 0
      have low_7_c1 : v7.cell? ⟨v2.heap.size, 1, none⟩ = some (.slice A2 m2 c2) := (Blow_7.cell 1).trans rfl
      have low_7_f1 := Blow_7.frozen 1
      have high_7_z : v3.heap.size < v7.heap.size := Bhigh_7.lt
      have high_7_c0 : v7.cell? ⟨v3.heap.size, 0, none⟩ = some (.bool n3) := (Bhigh_7.cell 0).trans rfl
      have high_7_f0 := Bhigh_7.frozen 0
      have high_7_c1 : v7.cell? ⟨v3.heap.size, 1, none⟩ = some (.slice A3 m3 c3) := (Bhigh_7.cell 1).trans rfl
      have high_7_f1 := Bhigh_7.frozen 1
      have one_7_z : v4.heap.size < v7.heap.size := Bone_7.lt
      have one_7_c0 : v7.cell? ⟨v4.heap.size, 0, none⟩ = some (.bool n4) := (Bone_7.cell 0).trans rfl
      have one_7_f0 := Bone_7.frozen 0
      have one_7_c1 : v7.cell? ⟨v4.heap.size, 1, none⟩ = some (.slice A4 m4 c4) := (Bone_7.cell 1).trans rfl
      have one_7_f1 := Bone_7.frozen 1
      have least_7_z : v5.heap.size < v7.heap.size := Bleast_7.lt
      have least_7_c0 : v7.cell? ⟨v5.heap.size, 0, none⟩ = some (.bool n5) := (Bleast_7.cell 0).trans rfl
      have least_7_f0 := Bleast_7.frozen 0
      have least_7_c1 : v7.cell? ⟨v5.heap.size, 1, none⟩ = some (.slice A5 m5 c5) := (Bleast_7.cell 1).trans rfl
      have least_7_f1 := Bleast_7.frozen 1
      have above_7_z : v6.heap.size < v7.heap.size := Babove_7.lt
      have above_7_c0 : v7.cell? ⟨v6.heap.size, 0, none⟩ = some (.bool n6) := (Babove_7.cell 0).trans rfl
      have above_7_f0 := Babove_7.frozen 0
      have above_7_c1 : v7.cell? ⟨v6.heap.size, 1, none⟩ = some (.slice A6 m6 c6) := (Babove_7.cell 1).trans rfl
      have above_7_f1 := Babove_7.frozen 1
      have ks_7 := ks_6.below st7
      have kby_7 := kby_6.below st7
      have klow_7 := klow_6.below st7
      have khigh_7 := khigh_6.below st7
      have kone_7 := kone_6.below st7
      have kleast_7 := kleast_6.below st7
      have kabove_7 := k6.below st7
      go_wp2_with fail
      refine (Cmp_any _ _ _ _ _ _ _ _ _ _ _ (ks_7.below (bl_alloc (Below.refl _ _) _)) (kleast_7.below (bl_alloc (Below.refl _ _) _))).mono ?_; rintro e v8 ⟨rfl, hb8⟩
      have st8 := bl_step (bl_alloc (Below.refl _ _) _) hb8
      have bl8 := bl_step bl7 st8
      have Bmost_8 : Blk v8 (v7.heap.size) 31 #[.bool n7, .slice A7 m7 c7] := (Blk.new _ _ _).below hb8
      clear s_7_z s_7_c0 s_7_f0 s_7_c1 s_7_f1
      have Bs_8 := Bs_7.below st8
      clear by_7_z by_7_c0 by_7_f0 by_7_c1 by_7_f1
      have Bby_8 := Bby_7.below st8
      clear low_7_z low_7_c0 low_7_f0 low_7_c1 low_7_f1
      have Blow_8 := Blow_7.below st8
      clear high_7_z high_7_c0 high_7_f0 high_7_c1 high_7_f1
      have Bhigh_8 := Bhigh_7.below st8
      clear one_7_z one_7_c0 one_7_f0 one_7_c1 one_7_f1
      have Bone_8 := Bone_7.below st8
      clear least_7_z least_7_c0 least_7_f0 least_7_c1 least_7_f1
      have Bleast_8 := Bleast_7.below st8
      clear above_7_z above_7_c0 above_7_f0 above_7_c1 above_7_f1
      have Babove_8 := Babove_7.below st8
      have s_8_z : w.heap.size < v8.heap.size := Bs_8.lt
      have s_8_c0 : v8.cell? ⟨w.heap.size, 0, none⟩ = some (.bool n) := (Bs_8.cell 0).trans rfl
      have s_8_f0 := Bs_8.frozen 0
      have s_8_c1 : v8.cell? ⟨w.heap.size, 1, none⟩ = some (.slice A0 m c0) := (Bs_8.cell 1).trans rfl
      have s_8_f1 := Bs_8.frozen 1
      have by_8_z : v1.heap.size < v8.heap.size := Bby_8.lt
      have by_8_c0 : v8.cell? ⟨v1.heap.size, 0, none⟩ = some (.bool n1) := (Bby_8.cell 0).trans rfl
      have by_8_f0 := Bby_8.frozen 0
      have by_8_c1 : v8.cell? ⟨v1.heap.size, 1, none⟩ = some (.slice A1 m1 c1) := (Bby_8.cell 1).trans rfl
      have by_8_f1 := Bby_8.frozen 1
      have low_8_z : v2.heap.size < v8.heap.size := Blow_8.lt
      have low_8_c0 : v8.cell? ⟨v2.heap.size, 0, none⟩ = some (.bool n2) := (Blow_8.cell 0).trans rfl
      have low_8_f0 := Blow_8.frozen 0
      have low_8_c1 : v8.cell? ⟨v2.heap.size, 1, none⟩ = some (.slice A2 m2 c2) := (Blow_8.cell 1).trans rfl
      have low_8_f1 := Blow_8.frozen 1
      have high_8_z : v3.heap.size < v8.heap.size := Bhigh_8.lt
      have high_8_c0 : v8.cell? ⟨v3.heap.size, 0, none⟩ = some (.bool n3) := (Bhigh_8.cell 0).trans rfl
      have high_8_f0 := Bhigh_8.frozen 0
      have high_8_c1 : v8.cell? ⟨v3.heap.size, 1, none⟩ = some (.slice A3 m3 c3) := (Bhigh_8.cell 1).trans rfl
      have high_8_f1 := Bhigh_8.frozen 1
      have one_8_z : v4.heap.size < v8.heap.size := Bone_8.lt
      have one_8_c0 : v8.cell? ⟨v4.heap.size, 0, none⟩ = some (.bool n4) := (Bone_8.cell 0).trans rfl
      have one_8_f0 := Bone_8.frozen 0
      have one_8_c1 : v8.cell? ⟨v4.heap.size, 1, none⟩ = some (.slice A4 m4 c4) := (Bone_8.cell 1).trans rfl
      have one_8_f1 := Bone_8.frozen 1
      have least_8_z : v5.heap.size < v8.heap.size := Bleast_8.lt
      have least_8_c0 : v8.cell? ⟨v5.heap.size, 0, none⟩ = some (.bool n5) := (Bleast_8.cell 0).trans rfl
      have least_8_f0 := Bleast_8.frozen 0
      have least_8_c1 : v8.cell? ⟨v5.heap.size, 1, none⟩ = some (.slice A5 m5 c5) := (Bleast_8.cell 1).trans rfl
      have least_8_f1 := Bleast_8.frozen 1
      have above_8_z : v6.heap.size < v8.heap.size := Babove_8.lt
      have above_8_c0 : v8.cell? ⟨v6.heap.size, 0, none⟩ = some (.bool n6) := (Babove_8.cell 0).trans rfl
      have above_8_f0 := Babove_8.frozen 0
      have above_8_c1 : v8.cell? ⟨v6.heap.size, 1, none⟩ = some (.slice A6 m6 c6) := (Babove_8.cell 1).trans rfl
      have above_8_f1 := Babove_8.frozen 1
      have most_8_z : v7.heap.size < v8.heap.size := Bmost_8.lt
      have most_8_c0 : v8.cell? ⟨v7.heap.size, 0, none⟩ = some (.bool n7) := (Bmost_8.cell 0).trans rfl
      have most_8_f0 := Bmost_8.frozen 0
      have most_8_c1 : v8.cell? ⟨v7.heap.size, 1, none⟩ = some (.slice A7 m7 c7) := (Bmost_8.cell 1).trans rfl
      have most_8_f1 := Bmost_8.frozen 1
      have ks_8 := ks_7.below st8
      have kby_8 := kby_7.below st8
      have klow_8 := klow_7.below st8
      have khigh_8 := khigh_7.below st8
      have kone_8 := kone_7.below st8
      have kleast_8 := kleast_7.below st8
      have kabove_8 := kabove_7.below st8
      have kmost_8 := k7.below st8
      go_wp2_with fail
      refine (Cmp_any _ _ _ _ _ _ _ _ _ _ _ ks_8 kmost_8).mono ?_; rintro e v9 ⟨rfl, hb9⟩
      have st9 := bl_step (Below.refl _ _) hb9
      have bl9 := bl_step bl8 st9
      clear s_8_z s_8_c0 s_8_f0 s_8_c1 s_8_f1
      have Bs_9 := Bs_8.below st9
      clear by_8_z by_8_c0 by_8_f0 by_8_c1 by_8_f1
      have Bby_9 := Bby_8.below st9
      clear low_8_z low_8_c0 low_8_f0 low_8_c1 low_8_f1
      have Blow_9 := Blow_8.below st9
      clear high_8_z high_8_c0 high_8_f0 high_8_c1 high_8_f1
      have Bhigh_9 := Bhigh_8.below st9
      clear one_8_z one_8_c0 one_8_f0 one_8_c1 one_8_f1
      have Bone_9 := Bone_8.below st9
      clear least_8_z least_8_c0 least_8_f0 least_8_c1 least_8_f1
      have Bleast_9 := Bleast_8.below st9
      clear above_8_z above_8_c0 above_8_f0 above_8_c1 above_8_f1
      have Babove_9 := Babove_8.below st9
      clear most_8_z most_8_c0 most_8_f0 most_8_c1 most_8_f1
      have Bmost_9 := Bmost_8.below st9
      have s_9_z : w.heap.size < v9.heap.size := Bs_9.lt
      have s_9_c0 : v9.cell? ⟨w.heap.size, 0, none⟩ = some (.bool n) := (Bs_9.cell 0).trans rfl
      have s_9_f0 := Bs_9.frozen 0
      have s_9_c1 : v9.cell? ⟨w.heap.size, 1, none⟩ = some (.slice A0 m c0) := (Bs_9.cell 1).trans rfl
      have s_9_f1 := Bs_9.frozen 1
      have by_9_z : v1.heap.size < v9.heap.size := Bby_9.lt
      have by_9_c0 : v9.cell? ⟨v1.heap.size, 0, none⟩ = some (.bool n1) := (Bby_9.cell 0).trans rfl
      have by_9_f0 := Bby_9.frozen 0
      have by_9_c1 : v9.cell? ⟨v1.heap.size, 1, none⟩ = some (.slice A1 m1 c1) := (Bby_9.cell 1).trans rfl
      have by_9_f1 := Bby_9.frozen 1
      have low_9_z : v2.heap.size < v9.heap.size := Blow_9.lt
      have low_9_c0 : v9.cell? ⟨v2.heap.size, 0, none⟩ = some (.bool n2) := (Blow_9.cell 0).trans rfl
      have low_9_f0 := Blow_9.frozen 0
      have low_9_c1 : v9.cell? ⟨v2.heap.size, 1, none⟩ = some (.slice A2 m2 c2) := (Blow_9.cell 1).trans rfl
      have low_9_f1 := Blow_9.frozen 1
      have high_9_z : v3.heap.size < v9.heap.size := Bhigh_9.lt
      have high_9_c0 : v9.cell? ⟨v3.heap.size, 0, none⟩ = some (.bool n3) := (Bhigh_9.cell 0).trans rfl
      have high_9_f0 := Bhigh_9.frozen 0
      have high_9_c1 : v9.cell? ⟨v3.heap.size, 1, none⟩ = some (.slice A3 m3 c3) := (Bhigh_9.cell 1).trans rfl
      have high_9_f1 := Bhigh_9.frozen 1
      have one_9_z : v4.heap.size < v9.heap.size := Bone_9.lt
      have one_9_c0 : v9.cell? ⟨v4.heap.size, 0, none⟩ = some (.bool n4) := (Bone_9.cell 0).trans rfl
      have one_9_f0 := Bone_9.frozen 0
      have one_9_c1 : v9.cell? ⟨v4.heap.size, 1, none⟩ = some (.slice A4 m4 c4) := (Bone_9.cell 1).trans rfl
      have one_9_f1 := Bone_9.frozen 1
      have least_9_z : v5.heap.size < v9.heap.size := Bleast_9.lt
      have least_9_c0 : v9.cell? ⟨v5.heap.size, 0, none⟩ = some (.bool n5) := (Bleast_9.cell 0).trans rfl
      have least_9_f0 := Bleast_9.frozen 0
      have least_9_c1 : v9.cell? ⟨v5.heap.size, 1, none⟩ = some (.slice A5 m5 c5) := (Bleast_9.cell 1).trans rfl
      have least_9_f1 := Bleast_9.frozen 1
      have above_9_z : v6.heap.size < v9.heap.size := Babove_9.lt
      have above_9_c0 : v9.cell? ⟨v6.heap.size, 0, none⟩ = some (.bool n6) := (Babove_9.cell 0).trans rfl
      have above_9_f0 := Babove_9.frozen 0
      have above_9_c1 : v9.cell? ⟨v6.heap.size, 1, none⟩ = some (.slice A6 m6 c6) := (Babove_9.cell 1).trans rfl
      have above_9_f1 := Babove_9.frozen 1
      have most_9_z : v7.heap.size < v9.heap.size := Bmost_9.lt
      have most_9_c0 : v9.cell? ⟨v7.heap.size, 0, none⟩ = some (.bool n7) := (Bmost_9.cell 0).trans rfl
      have most_9_f0 := Bmost_9.frozen 0
      have most_9_c1 : v9.cell? ⟨v7.heap.size, 1, none⟩ = some (.slice A7 m7 c7) := (Bmost_9.cell 1).trans rfl
      have most_9_f1 := Bmost_9.frozen 1
      have ks_9 := ks_8.below st9
      have kby_9 := kby_8.below st9
      have klow_9 := klow_8.below st9
      have khigh_9 := khigh_8.below st9
      have kone_9 := kone_8.below st9
      have kleast_9 := kleast_8.below st9
      have kabove_9 := kabove_8.below st9
      have kmost_9 := kmost_8.below st9
      obtain ⟨S, hS⟩ : ∃ S, S = l.sum := ⟨_, rfl⟩
      have HSE := Lib.hid hS
      rw [← hS]
      rw [← hS] at ks_9
      clear hS
      have HXA : Hid (cmp3 S (-9223372036854775808 * d) < 0 ↔ S < -9223372036854775808 * d) := Lib.hid (c3_lt _ _)
      have HXB : Hid (0 ≤ cmp3 S ((9223372036854775807 + 1) * d) ↔ (9223372036854775807 + 1) * d ≤ S) := Lib.hid (c3_ge _ _)
      generalize cmp3 S (-9223372036854775808 * d) = xa at *
      generalize cmp3 S ((9223372036854775807 + 1) * d) = xb at *
      by_cases ha : S < -9223372036854775808 * d
      · have hxa := HXA.out.2 ha
        have HZ : Hid (fitN (S / d) = 0 ∧ fitB (S / d) = false) := Lib.hid (fit_out (.inl (Int.ediv_lt_of_lt_mul hd ha)))
        clear ha
        go_wp2_with fail
        go_ret2
        refine ⟨?_, bl_step be bl9⟩
        rw [← HSE.out, HZ.out.1, HZ.out.2]; rfl
      · by_cases hb : (9223372036854775807 + 1) * d ≤ S
        · have hxb := HXB.out.2 hb
          have HZ : Hid (fitN (S / d) = 0 ∧ fitB (S / d) = false) := Lib.hid (fit_out (.inr (Int.le_ediv_of_mul_le hd hb)))
          clear ha hb
          go_wp2_with fail
          all_goals
            go_ret2
            refine ⟨?_, bl_step be bl9⟩
            rw [← HSE.out, HZ.out.1, HZ.out.2]; rfl
        · have hxa : 0 ≤ xa := by have := HXA.out; omega
          have hxb : xb < 0 := by have := HXB.out; omega
          have q1 : -9223372036854775808 ≤ S / d := Int.le_ediv_of_mul_le hd (by omega)
          have q2 : S / d < 9223372036854775807 + 1 := Int.ediv_lt_of_lt_mul hd (by omega)
          have hmq : ∀ m : Int, m * d ≤ S ↔ m ≤ S / d := fun m => (Int.le_ediv_iff_mul_le hd).symm
          obtain ⟨Q, hQ⟩ : ∃ Q, Q = S / d := ⟨_, rfl⟩
          rw [← hQ] at q1 q2
          simp only [← hQ] at hmq
          have HQE := Lib.hid hQ.symm
          clear hQ
          have HMQ := Lib.hid hmq
          clear ha hb hmq
          go_wp2_with fail
          go_loopw [18, 19] (fun vx vy wx => ∃ x y : Int, vx = .int .i64 x ∧ vy = .int .i64 y ∧ -9223372036854775808 ≤ x ∧ x ≤ Q ∧ Q ≤ y ∧ y ≤ 9223372036854775807 ∧ BisIn w w.heap.size v1.heap.size n A0 m c0 S n1 A1 m1 c1 d wx) (fun vx vy _ => (intOf vy - intOf vx).toNat)
          case atStart => exact ⟨-9223372036854775808, 9223372036854775807, rfl, rfl, by omega, q1, Int.le_of_lt_add_one q2, by omega, ⟨Bs_9, ks_9, Bby_9, kby_9, bl_step be bl9⟩⟩
          case round =>
            obtain ⟨x, y, rfl, rfl, hx, hxq, hqy, hy, hbs, hks, hbb, hkb, be2⟩ := hrel
            have s2z : w.heap.size < wr.heap.size := hbs.lt
            have s2c0 : wr.cell? ⟨w.heap.size, 0, none⟩ = some (.bool n) := (hbs.cell 0).trans rfl
            have s2f0 := hbs.frozen 0
            have s2c1 : wr.cell? ⟨w.heap.size, 1, none⟩ = some (.slice A0 m c0) := (hbs.cell 1).trans rfl
            have s2f1 := hbs.frozen 1
            have b2z : v1.heap.size < wr.heap.size := hbb.lt
            have b2c0 : wr.cell? ⟨v1.heap.size, 0, none⟩ = some (.bool n1) := (hbb.cell 0).trans rfl
            have b2f0 := hbb.frozen 0
            have b2c1 : wr.cell? ⟨v1.heap.size, 1, none⟩ = some (.slice A1 m1 c1) := (hbb.cell 1).trans rfl
            have b2f1 := hbb.frozen 1
            by_cases hlt : x < y
            · obtain ⟨a, p, b, q, t, e1, e2, e3, e4, e5, ha1, ha2, hb1, hb2, hp1, hp2, hq1, hq2, ht1, ht2, hm1, hm2⟩ := mid x y hx hy hlt
              have HSM : Hid (Sm (a + b + t)) := Lib.hid (sm_of (by omega) (by omega))
              have bl20 : Below wr.heap.size wr wr := Below.refl _ _
              go_wp2_with fail
              refine (Of_any _ _ ⟨by omega, by omega⟩).mono ?_; rintro e u21 ⟨n21, A21, m21, c21, rfl, k21, hb21⟩
              have st21 := bl_step (Below.refl _ _) hb21
              have bl21 := bl_step bl20 st21
              clear s2z s2c0 s2f0 s2c1 s2f1
              have Bs_21 := hbs.below st21
              clear b2z b2c0 b2f0 b2c1 b2f1
              have Bby_21 := hbb.below st21
              have s_21_z : w.heap.size < u21.heap.size := Bs_21.lt
              have s_21_c0 : u21.cell? ⟨w.heap.size, 0, none⟩ = some (.bool n) := (Bs_21.cell 0).trans rfl
              have s_21_f0 := Bs_21.frozen 0
              have s_21_c1 : u21.cell? ⟨w.heap.size, 1, none⟩ = some (.slice A0 m c0) := (Bs_21.cell 1).trans rfl
              have s_21_f1 := Bs_21.frozen 1
              have by_21_z : v1.heap.size < u21.heap.size := Bby_21.lt
              have by_21_c0 : u21.cell? ⟨v1.heap.size, 0, none⟩ = some (.bool n1) := (Bby_21.cell 0).trans rfl
              have by_21_f0 := Bby_21.frozen 0
              have by_21_c1 : u21.cell? ⟨v1.heap.size, 1, none⟩ = some (.slice A1 m1 c1) := (Bby_21.cell 1).trans rfl
              have by_21_f1 := Bby_21.frozen 1
              have ks_21 := hks.below st21
              have kby_21 := hkb.below st21
              go_wp2_with fail
              refine (BMul_any _ _ _ _ _ _ _ _ _ _ _ (k21.below (bl_alloc (Below.refl _ _) _)) (kby_21.below (bl_alloc (Below.refl _ _) _)) HSM.out HM.out.2.1).mono ?_; rintro e u22 ⟨n22, A22, m22, c22, rfl, k22, hb22⟩
              have st22 := bl_step (bl_alloc (Below.refl _ _) _) hb22
              have bl22 := bl_step bl21 st22
              have Bw_22 : Blk u22 (u21.heap.size) 31 #[.bool n21, .slice A21 m21 c21] := (Blk.new _ _ _).below hb22
              clear s_21_z s_21_c0 s_21_f0 s_21_c1 s_21_f1
              have Bs_22 := Bs_21.below st22
              clear by_21_z by_21_c0 by_21_f0 by_21_c1 by_21_f1
              have Bby_22 := Bby_21.below st22
              have s_22_z : w.heap.size < u22.heap.size := Bs_22.lt
              have s_22_c0 : u22.cell? ⟨w.heap.size, 0, none⟩ = some (.bool n) := (Bs_22.cell 0).trans rfl
              have s_22_f0 := Bs_22.frozen 0
              have s_22_c1 : u22.cell? ⟨w.heap.size, 1, none⟩ = some (.slice A0 m c0) := (Bs_22.cell 1).trans rfl
              have s_22_f1 := Bs_22.frozen 1
              have by_22_z : v1.heap.size < u22.heap.size := Bby_22.lt
              have by_22_c0 : u22.cell? ⟨v1.heap.size, 0, none⟩ = some (.bool n1) := (Bby_22.cell 0).trans rfl
              have by_22_f0 := Bby_22.frozen 0
              have by_22_c1 : u22.cell? ⟨v1.heap.size, 1, none⟩ = some (.slice A1 m1 c1) := (Bby_22.cell 1).trans rfl
              have by_22_f1 := Bby_22.frozen 1
              have w_22_z : u21.heap.size < u22.heap.size := Bw_22.lt
              have w_22_c0 : u22.cell? ⟨u21.heap.size, 0, none⟩ = some (.bool n21) := (Bw_22.cell 0).trans rfl
              have w_22_f0 := Bw_22.frozen 0
              have w_22_c1 : u22.cell? ⟨u21.heap.size, 1, none⟩ = some (.slice A21 m21 c21) := (Bw_22.cell 1).trans rfl
              have w_22_f1 := Bw_22.frozen 1
              have ks_22 := ks_21.below st22
              have kby_22 := kby_21.below st22
              have kw_22 := k21.below st22
              go_wp2_with fail
              refine (Cmp_any _ _ _ _ _ _ _ _ _ _ _ (k22.below (bl_alloc (Below.refl _ _) _)) (ks_22.below (bl_alloc (Below.refl _ _) _))).mono ?_; rintro e u23 ⟨rfl, hb23⟩
              have st23 := bl_step (bl_alloc (Below.refl _ _) _) hb23
              have bl23 := bl_step bl22 st23
              have Bp_23 : Blk u23 (u22.heap.size) 31 #[.bool n22, .slice A22 m22 c22] := (Blk.new _ _ _).below hb23
              clear s_22_z s_22_c0 s_22_f0 s_22_c1 s_22_f1
              have Bs_23 := Bs_22.below st23
              clear by_22_z by_22_c0 by_22_f0 by_22_c1 by_22_f1
              have Bby_23 := Bby_22.below st23
              clear w_22_z w_22_c0 w_22_f0 w_22_c1 w_22_f1
              have Bw_23 := Bw_22.below st23
              have s_23_z : w.heap.size < u23.heap.size := Bs_23.lt
              have s_23_c0 : u23.cell? ⟨w.heap.size, 0, none⟩ = some (.bool n) := (Bs_23.cell 0).trans rfl
              have s_23_f0 := Bs_23.frozen 0
              have s_23_c1 : u23.cell? ⟨w.heap.size, 1, none⟩ = some (.slice A0 m c0) := (Bs_23.cell 1).trans rfl
              have s_23_f1 := Bs_23.frozen 1
              have by_23_z : v1.heap.size < u23.heap.size := Bby_23.lt
              have by_23_c0 : u23.cell? ⟨v1.heap.size, 0, none⟩ = some (.bool n1) := (Bby_23.cell 0).trans rfl
              have by_23_f0 := Bby_23.frozen 0
              have by_23_c1 : u23.cell? ⟨v1.heap.size, 1, none⟩ = some (.slice A1 m1 c1) := (Bby_23.cell 1).trans rfl
              have by_23_f1 := Bby_23.frozen 1
              have w_23_z : u21.heap.size < u23.heap.size := Bw_23.lt
              have w_23_c0 : u23.cell? ⟨u21.heap.size, 0, none⟩ = some (.bool n21) := (Bw_23.cell 0).trans rfl
              have w_23_f0 := Bw_23.frozen 0
              have w_23_c1 : u23.cell? ⟨u21.heap.size, 1, none⟩ = some (.slice A21 m21 c21) := (Bw_23.cell 1).trans rfl
              have w_23_f1 := Bw_23.frozen 1
              have p_23_z : u22.heap.size < u23.heap.size := Bp_23.lt
              have p_23_c0 : u23.cell? ⟨u22.heap.size, 0, none⟩ = some (.bool n22) := (Bp_23.cell 0).trans rfl
              have p_23_f0 := Bp_23.frozen 0
              have p_23_c1 : u23.cell? ⟨u22.heap.size, 1, none⟩ = some (.slice A22 m22 c22) := (Bp_23.cell 1).trans rfl
              have p_23_f1 := Bp_23.frozen 1
              have ks_23 := ks_22.below st23
              have kby_23 := kby_22.below st23
              have kw_23 := kw_22.below st23
              have kp_23 := k22.below st23
              have HMX := Lib.hid (HMQ.out (a + b + t))
              have HC : Hid (cmp3 ((a + b + t) * d) S ≤ 0 ↔ (a + b + t) * d ≤ S) := Lib.hid (c3_le _ _)
              generalize cmp3 ((a + b + t) * d) S = xc at *
              by_cases hc : xc ≤ 0
              · have hmq : a + b + t ≤ Q := by have h1 := HMX.out; have h2 := HC.out; omega
                go_wp2_with fail
                go_roundw
                case rel => exact ⟨_, _, rfl, rfl, by omega, hmq, hqy, hy, ⟨Bs_23, ks_23, Bby_23, kby_23, bl_step be2 bl23⟩⟩
                case measure => simp only [intOf]; omega
              · have hmq : Q < a + b + t := by have h1 := HMX.out; have h2 := HC.out; omega
                go_wp2_with fail
                go_roundw
                case rel => exact ⟨_, _, rfl, rfl, hx, hxq, by omega, by omega, ⟨Bs_23, ks_23, Bby_23, kby_23, bl_step be2 bl23⟩⟩
                case measure => simp only [intOf]; omega
            · have hxx : x = Q := by omega
              have HXX : Hid (x = Q) := Lib.hid hxx
              have HF : Hid (fitN Q = Q ∧ fitB Q = true) := Lib.hid ⟨if_pos ⟨by omega, by omega⟩, decide_eq_true ⟨by omega, by omega⟩⟩
              clear hxx
              go_wp2_with fail
              go_ret2
              refine ⟨?_, be2⟩
              have HQ1 : Hid (fitN (l.sum / d) = x ∧ fitB (l.sum / d) = true) := Lib.hid ⟨by rw [← HSE.out, HQE.out, HXX.out]; exact HF.out.1, by rw [← HSE.out, HQE.out]; exact HF.out.2⟩
              rw [HQ1.out.1, HQ1.out.2]; rfl
theorem BFloorSum_any (d : Int) (A : Option Addr) (c : Nat) (l : List Int) (w : World) (id : InI d) (hl : l.length ≤ 1000000) (hw : ∀ x ∈ l, InI x)
    (hr : 0 < l.length → ∃ ad, A = some ad ∧ ∀ j u, l[j]? = some u → w.cell? (ad.add j) = some (.int .i64 u)) :
    Calls Try.prog 30 #[.int .i64 d, .slice A l.length c] w fun e w' => e = .returned (.tuple #[.int .i64 (meanN d l.sum), .bool (meanB d l.sum)]) ∧ Below w.heap.size w w' := by
  by_cases hd : 0 < d
  · have h := BFloorSum_yes d A c l w hd id hl hw hr
    unfold meanN meanB
    rw [if_pos hd, decide_eq_true hd]
    exact h
  · have h := BFloorSum_no d A l.length c w (by omega)
    unfold meanN meanB
    rw [if_neg hd, decide_eq_false hd]
    exact h
end Go.Proofs.Yteddbdmddgmicaa
