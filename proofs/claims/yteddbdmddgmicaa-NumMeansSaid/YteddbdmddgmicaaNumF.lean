/- The walks of package num, part F: sums, divisors, crosses. -/
import Derived.Test.YteddbdmddgmicaaNumE
import Derived.Deep.LoopGhost
namespace Go.Proofs.Yteddbdmddgmicaa
open Go.RowKit
set_option linter.unusedVariables false
set_option linter.unusedSimpArgs false

theorem gcd_step (x y : Nat) (_hy : 0 < y) : Nat.gcd y (x % y) = Nat.gcd x y := by rw [Nat.gcd_comm x y, Nat.gcd_rec y x, Nat.gcd_comm]
/-- How the rounds of a divisor stand. -/
structure GcdIn (g : Nat) (x y : Int) : Prop where
  x0 : 0 ≤ x
  x1 : x ≤ 9223372036854775808
  y0 : 0 ≤ y
  y1 : y ≤ 9223372036854775808
  g : Nat.gcd x.toNat y.toNat = g
set_option maxHeartbeats 800000 in
theorem Gcd_any (a b : Int) (w : World) (ha : InI a) (hb : InI b) :
    Calls Try.prog 25 #[.int .i64 a, .int .i64 b] w fun e w' => e = .returned (.tuple #[.int .i64 (fitN (Nat.gcd a.natAbs b.natAbs : Nat)), .bool (fitB (Nat.gcd a.natAbs b.natAbs : Nat))]) ∧ Below w.heap.size w w' := by
  have hg0 : GcdIn (Nat.gcd a.natAbs b.natAbs) (mag a) (mag b) := ⟨by unfold mag; omega, by unfold mag; have := ha.1; have := ha.2; omega, by unfold mag; omega, by unfold mag; have := hb.1; have := hb.2; omega, by unfold mag; simp⟩
  generalize Nat.gcd a.natAbs b.natAbs = g at hg0 ⊢
  go_enter Try.func25, Try.ntmps25
  go_wp2_with fail
  refine (size_mag a _ ha).mono ?_; rintro e w1 ⟨rfl, hw1⟩; subst w1
  go_wp2_with fail
  refine (size_mag b _ hb).mono ?_; rintro e w1 ⟨rfl, hw1⟩; subst w1
  go_wp2_with fail
  go_loopw [6, 7] (fun vx vy wr => ∃ x y : Int, vx = .int .u64 x ∧ vy = .int .u64 y ∧ GcdIn g x y ∧ Below w.heap.size w wr) (fun _ vy _ => (intOf vy).toNat)
  case atStart => exact ⟨_, _, rfl, rfl, hg0, Below.refl _ _⟩
  case round =>
    obtain ⟨x, y, rfl, rfl, hG, be⟩ := hrel
    have x0 := hG.x0
    have y0 := hG.y0
    have x1 := hG.x1
    by_cases hy : y = 0
    · have hy1 : (y != 0) = false := by simp [hy]
      have hgx : (x : Int) = (g : Int) := by have := hG.g; rw [hy] at this; simp at this; omega
      have HG := Lib.hid hgx
      have HS := Lib.hid (fun w => short_any false 0 x x w (.mk_ (by omega) (by omega) (by omega) (by omega) (.inr ⟨rfl, by omega, by omega⟩)))
      clear hy hgx
      go_wp2_with fail
      refine (HS.out _).mono ?_; rintro e w2 ⟨rfl, hb2⟩
      go_wp2
      go_ret2
      exact ⟨by rw [← HG.out]; rfl, bl_step be hb2⟩
    · have hy1 : (y != 0) = true := by simpa using hy
      have hy2 : 1 ≤ y := by omega
      have hy3 := hG.y1
      have hm0 : 0 ≤ x % y := Int.emod_nonneg x hy
      have hm1 : x % y < y := Int.emod_lt_of_pos x (by omega)
      have hG2 : GcdIn g y (x % y) := ⟨y0, hy3, hm0, by omega, by
        rw [← hG.g]
        have e : (x % y).toNat = x.toNat % y.toNat := by
          obtain ⟨X, rfl⟩ := Int.eq_ofNat_of_zero_le x0
          obtain ⟨Y, rfl⟩ := Int.eq_ofNat_of_zero_le y0
          rw [← Int.natCast_emod]; rfl
        rw [e, Nat.gcd_comm x.toNat y.toNat, Nat.gcd_rec y.toNat x.toNat, Nat.gcd_comm]⟩
      clear hy
      go_wp2_with fail
      go_quiet (fail)
      go_wp2
      go_roundw
      case rel => exact ⟨_, _, rfl, rfl, hG2, bl_drewN be _⟩
      case measure => simp only [intOf]; omega
set_option maxHeartbeats 1600000 in
theorem Cross_any (a b c d : Int) (w : World) (ha : InI a) (hb : InI b) (hc : InI c) (hd : InI d) :
    Calls Try.prog 11 #[.int .i64 a, .int .i64 b, .int .i64 c, .int .i64 d] w fun e w' => e = .returned (.int .i64 (cmp3 (a * d) (c * b))) ∧ Below w.heap.size w w' := by
  have HT1 := fun w => times_any a d w ha hd
  have HT2 := fun w => times_any c b w hc hb
  generalize a * d = x at HT1 ⊢
  generalize c * b = y at HT2 ⊢
  have H1 := Lib.hid HT1
  have H2 := Lib.hid HT2
  clear HT1 HT2
  go_enter Try.func11, Try.ntmps11
  go_wp2_with fail
  refine (H1.out _).mono ?_; rintro e w1 ⟨n1, h1, l1, rfl, k1, hb1⟩
  go_wp2_with fail
  refine (H2.out _).mono ?_; rintro e w2 ⟨n2, h2, l2, rfl, k2, hb2⟩
  cases n1 <;> cases n2
  · go_wp2_with fail
    refine (distance_any _ _ _ _ _ _ x y _ k1 k2).mono ?_; rintro e w3 ⟨rfl, hb3⟩
    go_wp2
    go_ret
    refine ⟨?_, bl_step (bl_alloc (bl_alloc (bl_step hb1 hb2) _) _) hb3⟩
    show Ending.returned (.int .i64 (cmp3 x.natAbs y.natAbs)) = _
    rcases k1.cases_ with ⟨e1, _, _⟩ | ⟨_, p1, _⟩
    · cases e1
    · rcases k2.cases_ with ⟨e2, _, _⟩ | ⟨_, p2, _⟩
      · cases e2
      · rw [show (x.natAbs : Int) = x by omega, show (y.natAbs : Int) = y by omega]
  · go_wp2_with fail
    go_ret
    refine ⟨?_, bl_alloc (bl_alloc (bl_step hb1 hb2) _) _⟩
    show Ending.returned (.int .i64 1) = _
    rcases k1.cases_ with ⟨e1, _, _⟩ | ⟨_, p1, _⟩
    · cases e1
    · rcases k2.cases_ with ⟨_, p2, _⟩ | ⟨e2, _, _⟩
      · rw [cmp3, if_neg (by omega), if_neg (by omega)]
      · cases e2
  · go_wp2_with fail
    go_ret
    refine ⟨?_, bl_alloc (bl_alloc (bl_step hb1 hb2) _) _⟩
    show Ending.returned (.int .i64 (-1)) = _
    rcases k1.cases_ with ⟨_, p1, _⟩ | ⟨e1, _, _⟩
    · rcases k2.cases_ with ⟨e2, _, _⟩ | ⟨_, p2, _⟩
      · cases e2
      · rw [cmp3, if_pos (by omega)]
    · cases e1
  · go_wp2_with fail
    refine (distance_any _ _ _ _ _ _ y x _ k2 k1).mono ?_; rintro e w3 ⟨rfl, hb3⟩
    go_wp2
    go_ret
    refine ⟨?_, bl_step (bl_alloc (bl_alloc (bl_step hb1 hb2) _) _) hb3⟩
    show Ending.returned (.int .i64 (cmp3 y.natAbs x.natAbs)) = _
    rcases k1.cases_ with ⟨_, p1, _⟩ | ⟨e1, _, _⟩
    · rcases k2.cases_ with ⟨_, p2, _⟩ | ⟨e2, _, _⟩
      · rw [show (x.natAbs : Int) = -x by omega, show (y.natAbs : Int) = -y by omega]
        congr 2
        unfold cmp3
        by_cases c1 : x < y
        · rw [if_pos c1, if_pos (by omega)]
        · by_cases c2 : x = y
          · rw [if_neg c1, if_pos c2, if_neg (by omega), if_pos (by omega)]
          · rw [if_neg c1, if_neg c2, if_neg (by omega), if_neg (by omega)]
      · cases e2
    · cases e1

theorem sum_take (l : List Int) (k : Nat) (h : k < l.length) : (l.take (k + 1)).sum = (l.take k).sum + l[k] := by
  rw [List.take_succ_eq_append_getElem h, List.sum_append]; simp
theorem sum_bd (l : List Int) (h : ∀ x ∈ l, InI x) : -(l.length * 9223372036854775808 : Int) ≤ l.sum ∧ l.sum ≤ (l.length * 9223372036854775808 : Int) := by
  induction l with
  | nil => simp
  | cons x l ih =>
    have h1 := h x (by simp)
    have h2 := ih fun y hy => h y (by simp [hy])
    have := h1.1; have := h1.2
    simp only [List.sum_cons, List.length_cons]
    omega
/-- How the rounds of a sum stand: k numbers are in it. -/
structure TotIn (w : World) (l : List Int) (k : Nat) (b : Nat) (wr : World) : Prop where
  kl : k ≤ l.length
  row : ∃ n h l', Blk wr b 48 #[.bool n, .int .u64 h, .int .u64 l'] ∧ IsW n h l' ((l.take k).sum)
  be : Below w.heap.size w wr

set_option maxHeartbeats 1600000 in
theorem total_any (A : Option Addr) (c : Nat) (l : List Int) (w : World) (hl : l.length ≤ 1000000) (hw : ∀ x ∈ l, InI x)
    (hr : 0 < l.length → ∃ ad, A = some ad ∧ ∀ j u, l[j]? = some u → w.cell? (ad.add j) = some (.int .i64 u)) :
    Calls Try.prog 42 #[.slice A l.length c] w (RetW l.sum w) := by
  have HR := Lib.hid hr
  have HW := Lib.hid hw
  clear hr hw
  go_enter Try.func42, Try.ntmps42
  go_wp2_with fail
  go_loopw [8] (fun i wr => ∃ k : Nat, i = .int .i64 k ∧ TotIn w l k (w.heap.size + 1) wr ∧ Blk wr w.heap.size 48 #[.bool false, .int .u64 0, .int .u64 0]) (fun i _ => l.length - (intOf i).toNat)
  case atStart =>
    exact ⟨0, rfl, ⟨Nat.zero_le _, ⟨false, 0, 0, Blk.new' (by simp) _ _, .mk_ (by omega) (by omega) (by omega) (by omega) (.inr ⟨rfl, by simp, by simp⟩)⟩, bl_alloc (bl_alloc (Below.refl _ _) _) _⟩, (Blk.new _ _ _).alloc _⟩
  case round =>
    obtain ⟨k, rfl, ⟨hk, ⟨n, h, l', hB, kW⟩, be⟩, hC⟩ := hrel
    have c0 : wr.cell? ⟨w.heap.size + 1, 0, none⟩ = some (.bool n) := (hB.cell 0).trans rfl
    have c1 : wr.cell? ⟨w.heap.size + 1, 1, none⟩ = some (.int .u64 h) := (hB.cell 1).trans rfl
    have c2 : wr.cell? ⟨w.heap.size + 1, 2, none⟩ = some (.int .u64 l') := (hB.cell 2).trans rfl
    have f0 := hB.frozen 0
    have f1 := hB.frozen 1
    have f2 := hB.frozen 2
    have z1 : w.heap.size + 1 < wr.heap.size := hB.lt
    by_cases hlt : k < l.length
    · obtain ⟨ad, rfl, hcell⟩ := HR.out (by omega)
      have hx : wr.cell? (ad.add k) = some (.int .i64 l[k]) := by
        have h0 := hcell k l[k] (List.getElem?_eq_getElem hlt)
        exact (be.cell (World.block_lt_of_cell? w _ h0)).trans h0
      have hxi : InI l[k] := HW.out _ (List.getElem_mem hlt)
      have hs := sum_take l k hlt
      have hs1 := sum_bd (l.take k) (fun x hx => HW.out x (List.mem_of_mem_take hx))
      rw [List.length_take, Nat.min_eq_left hk] at hs1
      generalize l[k] = x at hx hxi hs
      generalize (l.take k).sum = s at kW hs hs1
      have HA := Lib.hid (fun n2 h2 l2 w k2 => add_any n n2 h l' h2 l2 s x w kW k2 (by have := hxi.1; omega) (by have := hxi.2; omega))
      have HS := Lib.hid hs
      clear hcell hs hs1
      go_wp2_with fail
      go_region_with (first | (go_at_call 36; refine (of_any _ _ hxi).mono ?_; rintro e w2 ⟨n2, h2, l2, rfl, k2, hb2⟩; have hP := hB.drew.below hb2; have pc0 : w2.cell? ⟨w.heap.size + 1, 0, none⟩ = some (.bool n) := (hP.cell 0).trans rfl; have pf0 := hP.frozen 0; have pc1 : w2.cell? ⟨w.heap.size + 1, 1, none⟩ = some (.int .u64 h) := (hP.cell 1).trans rfl; have pf1 := hP.frozen 1; have pc2 : w2.cell? ⟨w.heap.size + 1, 2, none⟩ = some (.int .u64 l') := (hP.cell 2).trans rfl; have pf2 := hP.frozen 2) | (go_at_call 35; refine (HA.out _ _ _ _ k2).mono ?_; rintro e w3 ⟨n3, h3, l3, rfl, k3, hb3⟩; have hB3 := bl_step hb2 hb3; have hq := hB.drew.below hB3; have qc0 : w3.cell? ⟨w.heap.size + 1, 0, none⟩ = some (.bool n) := (hq.cell 0).trans rfl; have qf0 := hq.frozen 0; have qc1 : w3.cell? ⟨w.heap.size + 1, 1, none⟩ = some (.int .u64 h) := (hq.cell 1).trans rfl; have qf1 := hq.frozen 1; have qc2 : w3.cell? ⟨w.heap.size + 1, 2, none⟩ = some (.int .u64 l') := (hq.cell 2).trans rfl; have qf2 := hq.frozen 2))
      all_goals
        go_wp2
        go_roundw
        case rel =>
          refine ⟨k + 1, by go_num, ⟨by omega, ⟨n3, h3, l3, hq.put3, by rw [HS.out]; exact k3⟩, ?_⟩, ?_⟩
          · exact bl_set (bl_set (bl_set (bl_step be (bl_step (bl_drew (Below.refl _ _)) hB3)) (by simp) _) (by simp) _) (by simp) _
          · exact (((hC.drew.below hB3).far (by simp) _).far (by simp) _).far (by simp) _
        case measure => simp [intOf]; omega
    · have d0 : wr.cell? ⟨w.heap.size, 0, none⟩ = some (.bool false) := (hC.cell 0).trans rfl
      have d1 : wr.cell? ⟨w.heap.size, 1, none⟩ = some (.int .u64 0) := (hC.cell 1).trans rfl
      have d2 : wr.cell? ⟨w.heap.size, 2, none⟩ = some (.int .u64 0) := (hC.cell 2).trans rfl
      have g0 := hC.frozen 0
      have g1 := hC.frozen 1
      have g2 := hC.frozen 2
      go_wp2
      have hk1 : k = l.length := by omega
      refine bodyPost_ret (v := .agg #[.bool n, .int .u64 h, .int .u64 l']) (by simp [results, Try.results42, go_sem, d0, d1, d2, g0, g1, g2]) rfl ⟨n, h, l', rfl, ?_, ?_⟩
      · rw [hk1, List.take_of_length_le (Nat.le_refl _)] at kW; exact kW
      · exact bl_set (bl_set (bl_set be (by simp) _) (by simp) _) (by simp) _
end Go.Proofs.Yteddbdmddgmicaa
