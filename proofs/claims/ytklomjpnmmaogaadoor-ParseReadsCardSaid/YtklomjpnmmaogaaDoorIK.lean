/- The walks of the reference's instances, part K: which are the same. -/
import Derived.Test.YtklomjpnmmaogaaDoorIJ
import Derived.Test.YtklomjpnmmaogaaDoorIArr
import Derived.StillTailTactics
namespace Go.Proofs.YtklomjpnmmaogaaDoor
open Go.RowKit
set_option linter.unusedVariables false
set_option linter.unusedSimpArgs false
set_option maxRecDepth 100000

structure TwoAt (wr w : World) (I J : IData) (A1 A2 A3 D1 D2 D3 : Option Addr) (c1 c2 c3 d1 d2 d3 : Nat) : Prop where
  i : Blk wr w.heap.size 36 #[.int .i64 I.kind, .int .i64 I.cap, .slice A1 I.items.length c1, .slice A2 I.cost.length c2, .int .i64 I.size, .slice A3 I.sets.length c3]
  j : Blk wr (w.heap.size + 1) 36 #[.int .i64 J.kind, .int .i64 J.cap, .slice D1 J.items.length d1, .slice D2 J.cost.length d2, .int .i64 J.size, .slice D3 J.sets.length d3]
  b : Below w.heap.size w wr
theorem TwoAt.below {wr w wq : World} {I J : IData} {A1 A2 A3 D1 D2 D3 : Option Addr} {c1 c2 c3 d1 d2 d3 : Nat} (h : TwoAt wr w I J A1 A2 A3 D1 D2 D3 c1 c2 c3 d1 d2 d3) (hb : Below wr.heap.size wr wq) : TwoAt wq w I J A1 A2 A3 D1 D2 D3 c1 c2 c3 d1 d2 d3 := ⟨h.i.below hb, h.j.below hb, bl_step h.b hb⟩
theorem bl_dn (w : World) (n : Nat) : Below w.heap.size w (w.drewN n) := bl_drewN (Below.refl _ _) n
theorem eqD_of {I J : IData} (hk : I.kind = J.kind) (hc : I.cap = J.cap) (hs : I.size = J.size) : eqD I J = decide (I.items = J.items ∧ I.cost = J.cost ∧ I.sets = J.sets) := by
  unfold eqD
  rw [Bool.eq_iff_iff]
  simp [hk, hc, hs]
theorem eqD_not {I J : IData} (h : ¬ (I.kind = J.kind ∧ I.cap = J.cap ∧ I.size = J.size ∧ I.items.length = J.items.length ∧ I.cost.length = J.cost.length ∧ I.sets.length = J.sets.length)) : eqD I J = false := by
  unfold eqD
  rw [Bool.eq_false_iff]
  intro hh
  simp only [Bool.and_eq_true, beq_iff_eq, decide_eq_true_eq] at hh
  obtain ⟨h1, h2, h3, h4, h5, h6⟩ := hh
  exact h ⟨h1, h2, h3, by rw [h4], by rw [h5], by rw [h6]⟩
set_option maxHeartbeats 12800000 in
theorem bequal_any (I J : IData) (A1 A2 A3 D1 D2 D3 : Option Addr) (c1 c2 c3 d1 d2 d3 : Nat) (w : World) {B : Nat} (hI : InstAt w B I A1 c1 A2 c2 A3 c3) (hJ : InstAt w B J D1 d1 D2 d2 D3 d3) :
    Calls Tryd.prog 28 #[.agg #[.int .i64 I.kind, .int .i64 I.cap, .slice A1 I.items.length c1, .slice A2 I.cost.length c2, .int .i64 I.size, .slice A3 I.sets.length c3], .agg #[.int .i64 J.kind, .int .i64 J.cap, .slice D1 J.items.length d1, .slice D2 J.cost.length d2, .int .i64 J.size, .slice D3 J.sets.length d3]] w fun e w' => e = .returned (.bool (eqD I J)) ∧ Below w.heap.size w w' := by
  have HI := Lib.hid hI
  have HJ := Lib.hid hJ
  obtain ⟨n1, m1⟩ := hI.n1
  obtain ⟨n2, m2⟩ := hI.n2
  obtain ⟨n3, m3⟩ := hI.n3
  obtain ⟨o1, p1⟩ := hJ.n1
  obtain ⟨o2, p2⟩ := hJ.n2
  obtain ⟨o3, p3⟩ := hJ.n3
  clear hI hJ
  have hna := neq_arr2
  by_cases hk : I.kind = J.kind
  · have qk : (I.kind == J.kind) = true := by simpa using hk
    have mk : (I.kind != J.kind) = false := by simpa using hk
    by_cases hc : I.cap = J.cap
    · have qc : (I.cap == J.cap) = true := by simpa using hc
      have mc : (I.cap != J.cap) = false := by simpa using hc
      by_cases hs : I.size = J.size
      · have qs : (I.size == J.size) = true := by simpa using hs
        have ms : (I.size != J.size) = false := by simpa using hs
        by_cases h1 : I.items.length = J.items.length
        · have u11 : (I.items.length == J.items.length) = true := by rw [beq_iff_eq]; omega
          have u12 : ((I.items.length : Int) == (J.items.length : Int)) = true := by rw [beq_iff_eq]; omega
          have u13 : (I.items.length != J.items.length) = false := by rw [bne_eq_false_iff_eq]; omega
          have u14 : ((I.items.length : Int) != (J.items.length : Int)) = false := by rw [bne_eq_false_iff_eq]; omega
          by_cases h2 : I.cost.length = J.cost.length
          · have u21 : (I.cost.length == J.cost.length) = true := by rw [beq_iff_eq]; omega
            have u22 : ((I.cost.length : Int) == (J.cost.length : Int)) = true := by rw [beq_iff_eq]; omega
            have u23 : (I.cost.length != J.cost.length) = false := by rw [bne_eq_false_iff_eq]; omega
            have u24 : ((I.cost.length : Int) != (J.cost.length : Int)) = false := by rw [bne_eq_false_iff_eq]; omega
            by_cases h3 : I.sets.length = J.sets.length
            · have u31 : (I.sets.length == J.sets.length) = true := by rw [beq_iff_eq]; omega
              have u32 : ((I.sets.length : Int) == (J.sets.length : Int)) = true := by rw [beq_iff_eq]; omega
              have u33 : (I.sets.length != J.sets.length) = false := by rw [bne_eq_false_iff_eq]; omega
              have u34 : ((I.sets.length : Int) != (J.sets.length : Int)) = false := by rw [bne_eq_false_iff_eq]; omega
              have HE0 : Hid (eqD I J = decide (I.items = J.items ∧ I.cost = J.cost ∧ I.sets = J.sets)) := Lib.hid (eqD_of hk hc hs)
              have HL1 := Lib.hid h1
              have HL2 := Lib.hid h2
              have HL3 := Lib.hid h3
              clear hk hc hs h1 h2 h3
              go_enter Tryd.func28, Tryd.ntmps28
              go_wp2_with fail
              have Bi0 : Blk ((w.alloc (.cells #[.int .i64 I.kind, .int .i64 I.cap, .slice A1 I.items.length c1, .slice A2 I.cost.length c2, .int .i64 I.size, .slice A3 I.sets.length c3] 36)).alloc (.cells #[.int .i64 J.kind, .int .i64 J.cap, .slice D1 J.items.length d1, .slice D2 J.cost.length d2, .int .i64 J.size, .slice D3 J.sets.length d3] 36)) w.heap.size 36 #[.int .i64 I.kind, .int .i64 I.cap, .slice A1 I.items.length c1, .slice A2 I.cost.length c2, .int .i64 I.size, .slice A3 I.sets.length c3] := (Blk.new _ _ _).alloc _
              have Bj0 : Blk ((w.alloc (.cells #[.int .i64 I.kind, .int .i64 I.cap, .slice A1 I.items.length c1, .slice A2 I.cost.length c2, .int .i64 I.size, .slice A3 I.sets.length c3] 36)).alloc (.cells #[.int .i64 J.kind, .int .i64 J.cap, .slice D1 J.items.length d1, .slice D2 J.cost.length d2, .int .i64 J.size, .slice D3 J.sets.length d3] 36)) (w.heap.size + 1) 36 #[.int .i64 J.kind, .int .i64 J.cap, .slice D1 J.items.length d1, .slice D2 J.cost.length d2, .int .i64 J.size, .slice D3 J.sets.length d3] := Blk.new' (by simp) _ _
              have bl0 : Below w.heap.size w ((w.alloc (.cells #[.int .i64 I.kind, .int .i64 I.cap, .slice A1 I.items.length c1, .slice A2 I.cost.length c2, .int .i64 I.size, .slice A3 I.sets.length c3] 36)).alloc (.cells #[.int .i64 J.kind, .int .i64 J.cap, .slice D1 J.items.length d1, .slice D2 J.cost.length d2, .int .i64 J.size, .slice D3 J.sets.length d3] 36)) := bl_alloc (bl_alloc (Below.refl _ _) _) _
              generalize (w.alloc (.cells #[.int .i64 I.kind, .int .i64 I.cap, .slice A1 I.items.length c1, .slice A2 I.cost.length c2, .int .i64 I.size, .slice A3 I.sets.length c3] 36)).alloc (.cells #[.int .i64 J.kind, .int .i64 J.cap, .slice D1 J.items.length d1, .slice D2 J.cost.length d2, .int .i64 J.size, .slice D3 J.sets.length d3] 36) = w0 at Bi0 Bj0 bl0 ⊢
              have HB0 := Lib.hid (TwoAt.mk (I := I) (J := J) Bi0 Bj0 bl0)
              clear Bi0 Bj0 bl0
              go_loopw [5] (fun vi wr => ∃ i : Nat, vi = .int .i64 i ∧ i ≤ I.items.length ∧ Hid (I.items = J.items ↔ I.items.drop i = J.items.drop i) ∧ Hid (TwoAt wr w I J A1 A2 A3 D1 D2 D3 c1 c2 c3 d1 d2 d3)) (fun vi _ => I.items.length - (intOf vi).toNat)
              case atStart => exact ⟨0, rfl, Nat.zero_le _, Lib.hid (by simp), HB0⟩
              case round =>
                clear HB0
                obtain ⟨i, rfl, hi, HE, HB⟩ := hrel
                have aiz : w.heap.size < wr.heap.size := HB.out.i.lt
                have aic0 : wr.cell? ⟨w.heap.size, 0, none⟩ = some (.int .i64 I.kind) := (HB.out.i.cell 0).trans rfl
                have aif0 := HB.out.i.frozen 0
                have aic1 : wr.cell? ⟨w.heap.size, 1, none⟩ = some (.int .i64 I.cap) := (HB.out.i.cell 1).trans rfl
                have aif1 := HB.out.i.frozen 1
                have aic2 : wr.cell? ⟨w.heap.size, 2, none⟩ = some (.slice A1 I.items.length c1) := (HB.out.i.cell 2).trans rfl
                have aif2 := HB.out.i.frozen 2
                have aic3 : wr.cell? ⟨w.heap.size, 3, none⟩ = some (.slice A2 I.cost.length c2) := (HB.out.i.cell 3).trans rfl
                have aif3 := HB.out.i.frozen 3
                have aic4 : wr.cell? ⟨w.heap.size, 4, none⟩ = some (.int .i64 I.size) := (HB.out.i.cell 4).trans rfl
                have aif4 := HB.out.i.frozen 4
                have aic5 : wr.cell? ⟨w.heap.size, 5, none⟩ = some (.slice A3 I.sets.length c3) := (HB.out.i.cell 5).trans rfl
                have aif5 := HB.out.i.frozen 5
                have ajz : (w.heap.size + 1) < wr.heap.size := HB.out.j.lt
                have ajc0 : wr.cell? ⟨(w.heap.size + 1), 0, none⟩ = some (.int .i64 J.kind) := (HB.out.j.cell 0).trans rfl
                have ajf0 := HB.out.j.frozen 0
                have ajc1 : wr.cell? ⟨(w.heap.size + 1), 1, none⟩ = some (.int .i64 J.cap) := (HB.out.j.cell 1).trans rfl
                have ajf1 := HB.out.j.frozen 1
                have ajc2 : wr.cell? ⟨(w.heap.size + 1), 2, none⟩ = some (.slice D1 J.items.length d1) := (HB.out.j.cell 2).trans rfl
                have ajf2 := HB.out.j.frozen 2
                have ajc3 : wr.cell? ⟨(w.heap.size + 1), 3, none⟩ = some (.slice D2 J.cost.length d2) := (HB.out.j.cell 3).trans rfl
                have ajf3 := HB.out.j.frozen 3
                have ajc4 : wr.cell? ⟨(w.heap.size + 1), 4, none⟩ = some (.int .i64 J.size) := (HB.out.j.cell 4).trans rfl
                have ajf4 := HB.out.j.frozen 4
                have ajc5 : wr.cell? ⟨(w.heap.size + 1), 5, none⟩ = some (.slice D3 J.sets.length d3) := (HB.out.j.cell 5).trans rfl
                have ajf5 := HB.out.j.frozen 5
                by_cases hlt : i < I.items.length
                · obtain ⟨x, hx⟩ : ∃ x, I.items[i]? = some x := ⟨_, List.getElem?_eq_getElem hlt⟩
                  obtain ⟨y, hy⟩ : ∃ y, J.items[i]? = some y := ⟨_, List.getElem?_eq_getElem (by have := HL1.out; omega)⟩
                  obtain ⟨g, o, rfl, hb, hcx, hcx2⟩ := (HI.out.below HB.out.b).items.get hx
                  obtain ⟨g', o', rfl, hb', hcy, hcy2⟩ := (HJ.out.below HB.out.b).items.get hy
                  have h2 := drop_two hx hy
                  have i0 : (0 : Int) ≤ (i : Int) := by omega
                  have i1 : (i : Int) < (I.items.length : Int) := by omega
                  have i2 : (i : Int) < (J.items.length : Int) := by have := HL1.out; omega
                  have i3 : i < J.items.length := by omega
                  by_cases hxy : x = y
                  · have HE2 : Hid (I.items = J.items ↔ I.items.drop (i + 1) = J.items.drop (i + 1)) := Lib.hid (by rw [HE.out, h2]; simp [hxy])
                    subst hxy
                    clear h2 hx hy
                    go_wp2_with fail
                    go_quiet (fail)
                    go_wp2_with fail
                    go_roundw
                    case rel => exact ⟨i + 1, by go_num, by omega, HE2, Lib.hid (HB.out.below (bl_dn _ _))⟩
                    case measure => simp only [intOf]; omega
                  · have HF : Hid (eqD I J = false) := Lib.hid (by rw [HE0.out, decide_eq_false]; exact fun hh => hxy (h2.1 (HE.out.1 hh.1)).1)
                    clear h2 hx hy
                    by_cases e1 : x.1 = y.1
                    · have e2 : ¬ x.2 = y.2 := fun h => hxy (Prod.ext e1 h)
                      have q1 : (x.1 == y.1) = true := by simpa using e1
                      have q2 : (x.2 == y.2) = false := by simpa using e2
                      have q3 : (x.1 != y.1) = false := by simpa using e1
                      have q4 : (x.2 != y.2) = true := by simpa using e2
                      clear hxy e1 e2
                      go_wp2_with fail
                      go_quiet (fail)
                      go_wp2
                      go_ret
                      exact ⟨by rw [HF.out]; rfl, (HB.out.below (bl_dn _ _)).b⟩
                    · have q1 : (x.1 == y.1) = false := by simpa using e1
                      have q3 : (x.1 != y.1) = true := by simpa using e1
                      clear hxy e1
                      go_wp2_with fail
                      go_quiet (fail)
                      go_wp2
                      go_ret
                      exact ⟨by rw [HF.out]; rfl, (HB.out.below (bl_dn _ _)).b⟩
                · obtain rfl : i = I.items.length := by omega
                  have HE1 : Hid (eqD I J = decide (I.cost = J.cost ∧ I.sets = J.sets)) := Lib.hid (by
                    have hit : I.items = J.items := HE.out.2 (drop_end HL1.out)
                    rw [HE0.out, Bool.eq_iff_iff]; simp [hit])
                  clear HE0 HE hlt hi
                  go_wp2_with fail
                  go_loopw [6] (fun vi wr => ∃ i : Nat, vi = .int .i64 i ∧ i ≤ I.cost.length ∧ Hid (I.cost = J.cost ↔ I.cost.drop i = J.cost.drop i) ∧ Hid (TwoAt wr w I J A1 A2 A3 D1 D2 D3 c1 c2 c3 d1 d2 d3)) (fun vi _ => I.cost.length - (intOf vi).toNat)
                  case atStart => exact ⟨0, rfl, Nat.zero_le _, Lib.hid (by simp), HB⟩
                  case round =>
                    clear HB aiz aic0 aif0 aic1 aif1 aic2 aif2 aic3 aif3 aic4 aif4 aic5 aif5 ajz ajc0 ajf0 ajc1 ajf1 ajc2 ajf2 ajc3 ajf3 ajc4 ajf4 ajc5 ajf5
                    obtain ⟨i, rfl, hi, HE, HB⟩ := hrel
                    generalize wr = wo at HB ⊢
                    have biz : w.heap.size < wo.heap.size := HB.out.i.lt
                    have bic0 : wo.cell? ⟨w.heap.size, 0, none⟩ = some (.int .i64 I.kind) := (HB.out.i.cell 0).trans rfl
                    have bif0 := HB.out.i.frozen 0
                    have bic1 : wo.cell? ⟨w.heap.size, 1, none⟩ = some (.int .i64 I.cap) := (HB.out.i.cell 1).trans rfl
                    have bif1 := HB.out.i.frozen 1
                    have bic2 : wo.cell? ⟨w.heap.size, 2, none⟩ = some (.slice A1 I.items.length c1) := (HB.out.i.cell 2).trans rfl
                    have bif2 := HB.out.i.frozen 2
                    have bic3 : wo.cell? ⟨w.heap.size, 3, none⟩ = some (.slice A2 I.cost.length c2) := (HB.out.i.cell 3).trans rfl
                    have bif3 := HB.out.i.frozen 3
                    have bic4 : wo.cell? ⟨w.heap.size, 4, none⟩ = some (.int .i64 I.size) := (HB.out.i.cell 4).trans rfl
                    have bif4 := HB.out.i.frozen 4
                    have bic5 : wo.cell? ⟨w.heap.size, 5, none⟩ = some (.slice A3 I.sets.length c3) := (HB.out.i.cell 5).trans rfl
                    have bif5 := HB.out.i.frozen 5
                    have bjz : (w.heap.size + 1) < wo.heap.size := HB.out.j.lt
                    have bjc0 : wo.cell? ⟨(w.heap.size + 1), 0, none⟩ = some (.int .i64 J.kind) := (HB.out.j.cell 0).trans rfl
                    have bjf0 := HB.out.j.frozen 0
                    have bjc1 : wo.cell? ⟨(w.heap.size + 1), 1, none⟩ = some (.int .i64 J.cap) := (HB.out.j.cell 1).trans rfl
                    have bjf1 := HB.out.j.frozen 1
                    have bjc2 : wo.cell? ⟨(w.heap.size + 1), 2, none⟩ = some (.slice D1 J.items.length d1) := (HB.out.j.cell 2).trans rfl
                    have bjf2 := HB.out.j.frozen 2
                    have bjc3 : wo.cell? ⟨(w.heap.size + 1), 3, none⟩ = some (.slice D2 J.cost.length d2) := (HB.out.j.cell 3).trans rfl
                    have bjf3 := HB.out.j.frozen 3
                    have bjc4 : wo.cell? ⟨(w.heap.size + 1), 4, none⟩ = some (.int .i64 J.size) := (HB.out.j.cell 4).trans rfl
                    have bjf4 := HB.out.j.frozen 4
                    have bjc5 : wo.cell? ⟨(w.heap.size + 1), 5, none⟩ = some (.slice D3 J.sets.length d3) := (HB.out.j.cell 5).trans rfl
                    have bjf5 := HB.out.j.frozen 5
                    by_cases hlt : i < I.cost.length
                    · obtain ⟨x, hx⟩ : ∃ x, I.cost[i]? = some x := ⟨_, List.getElem?_eq_getElem hlt⟩
                      obtain ⟨y, hy⟩ : ∃ y, J.cost[i]? = some y := ⟨_, List.getElem?_eq_getElem (by have := HL2.out; omega)⟩
                      obtain ⟨g, o, X, cx, rfl, hb, hcx, hx1, hx2, hx3⟩ := (HI.out.below HB.out.b).cost.get hx
                      obtain ⟨g', o', Y, cy, rfl, hb', hcy, hy1, hy2, hy3⟩ := (HJ.out.below HB.out.b).cost.get hy
                      have h2 := drop_two hx hy
                      have i0 : (0 : Int) ≤ (i : Int) := by omega
                      have i1 : (i : Int) < (I.cost.length : Int) := by omega
                      have i2 : (i : Int) < (J.cost.length : Int) := by have := HL2.out; omega
                      have i3 : i < J.cost.length := by omega
                      by_cases hlen : x.length = y.length
                      · have HLN := Lib.hid hlen
                        have H2 := Lib.hid h2
                        have HX := Lib.hid hx3
                        have HY := Lib.hid hy3
                        have HBB := Lib.hid (HI.out.below HB.out.b).bd
                        have k1 : (x.length == y.length) = true := by simp; omega
                        have k2 : ((x.length : Int) == (y.length : Int)) = true := by rw [beq_iff_eq]; omega
                        have k3 : (x.length != y.length) = false := by simp; omega
                        have k4 : ((x.length : Int) != (y.length : Int)) = false := by rw [bne_eq_false_iff_eq]; omega
                        clear h2 hx hy hlen hx3 hy3
                        go_wp2_with fail
                        go_quiet (fail)
                        have HB2 := Lib.hid (HB.out.below (bl_dn wo nq))
                        have hk := Lib.hid (Alike.of_below (bl_dn wo nq) HBB.out)
                        have hg1 : g < wo.heap.size := by have := HBB.out; omega
                        have hg2 : g' < wo.heap.size := by have := HBB.out; omega
                        have hz : wo.heap.size ≤ (wo.drewN nq).heap.size := (bl_dn wo nq).size
                        have hcx' : (wo.drewN nq).cell? ⟨g, o + i, none⟩ = some (.slice X x.length cx) := hcx
                        have hcy' : (wo.drewN nq).cell? ⟨g', o' + i, none⟩ = some (.slice Y y.length cy) := hcy
                        clear hcx hcy biz bic0 bif0 bic1 bif1 bic2 bif2 bic3 bif3 bic4 bif4 bic5 bif5 bjz bjc0 bjf0 bjc1 bjf1 bjc2 bjf2 bjc3 bjf3 bjc4 bjf4 bjc5 bjf5 HB
                        generalize wo.drewN nq = wp at HB2 hk hz hcx' hcy' ⊢
                        have ciz : w.heap.size < wp.heap.size := HB2.out.i.lt
                        have cic0 : wp.cell? ⟨w.heap.size, 0, none⟩ = some (.int .i64 I.kind) := (HB2.out.i.cell 0).trans rfl
                        have cif0 := HB2.out.i.frozen 0
                        have cic1 : wp.cell? ⟨w.heap.size, 1, none⟩ = some (.int .i64 I.cap) := (HB2.out.i.cell 1).trans rfl
                        have cif1 := HB2.out.i.frozen 1
                        have cic2 : wp.cell? ⟨w.heap.size, 2, none⟩ = some (.slice A1 I.items.length c1) := (HB2.out.i.cell 2).trans rfl
                        have cif2 := HB2.out.i.frozen 2
                        have cic3 : wp.cell? ⟨w.heap.size, 3, none⟩ = some (.slice (some ⟨g, o, none⟩) I.cost.length c2) := (HB2.out.i.cell 3).trans rfl
                        have cif3 := HB2.out.i.frozen 3
                        have cic4 : wp.cell? ⟨w.heap.size, 4, none⟩ = some (.int .i64 I.size) := (HB2.out.i.cell 4).trans rfl
                        have cif4 := HB2.out.i.frozen 4
                        have cic5 : wp.cell? ⟨w.heap.size, 5, none⟩ = some (.slice A3 I.sets.length c3) := (HB2.out.i.cell 5).trans rfl
                        have cif5 := HB2.out.i.frozen 5
                        have cjz : (w.heap.size + 1) < wp.heap.size := HB2.out.j.lt
                        have cjc0 : wp.cell? ⟨(w.heap.size + 1), 0, none⟩ = some (.int .i64 J.kind) := (HB2.out.j.cell 0).trans rfl
                        have cjf0 := HB2.out.j.frozen 0
                        have cjc1 : wp.cell? ⟨(w.heap.size + 1), 1, none⟩ = some (.int .i64 J.cap) := (HB2.out.j.cell 1).trans rfl
                        have cjf1 := HB2.out.j.frozen 1
                        have cjc2 : wp.cell? ⟨(w.heap.size + 1), 2, none⟩ = some (.slice D1 J.items.length d1) := (HB2.out.j.cell 2).trans rfl
                        have cjf2 := HB2.out.j.frozen 2
                        have cjc3 : wp.cell? ⟨(w.heap.size + 1), 3, none⟩ = some (.slice (some ⟨g', o', none⟩) J.cost.length d2) := (HB2.out.j.cell 3).trans rfl
                        have cjf3 := HB2.out.j.frozen 3
                        have cjc4 : wp.cell? ⟨(w.heap.size + 1), 4, none⟩ = some (.int .i64 J.size) := (HB2.out.j.cell 4).trans rfl
                        have cjf4 := HB2.out.j.frozen 4
                        have cjc5 : wp.cell? ⟨(w.heap.size + 1), 5, none⟩ = some (.slice D3 J.sets.length d3) := (HB2.out.j.cell 5).trans rfl
                        have cjf5 := HB2.out.j.frozen 5
                        go_wp2_with fail
                        go_loopw [7] (fun vj wr => ∃ j : Nat, vj = .int .i64 j ∧ j ≤ x.length ∧ Hid (x = y ↔ x.drop j = y.drop j) ∧ Below wp.heap.size wp wr) (fun vj _ => x.length - (intOf vj).toNat)
                        case atStart => exact ⟨0, rfl, Nat.zero_le _, Lib.hid (by simp), Below.refl _ _⟩
                        case round =>
                          clear ciz cic0 cif0 cic1 cif1 cic2 cif2 cic3 cif3 cic4 cif4 cic5 cif5 cjz cjc0 cjf0 cjc1 cjf1 cjc2 cjf2 cjc3 cjf3 cjc4 cjf4 cjc5 cjf5
                          obtain ⟨j, rfl, hj, HR, be2⟩ := hrel
                          have HB3 := Lib.hid (HB2.out.below be2)
                          have hcx3 : wr.cell? ⟨g, o + i, none⟩ = some (.slice X x.length cx) := (be2.cell (p := ⟨g, o + i, none⟩) (by show g < _; omega)).trans hcx'
                          have hcy3 : wr.cell? ⟨g', o' + i, none⟩ = some (.slice Y y.length cy) := (be2.cell (p := ⟨g', o' + i, none⟩) (by show g' < _; omega)).trans hcy'
                          have diz : w.heap.size < wr.heap.size := HB3.out.i.lt
                          have dic0 : wr.cell? ⟨w.heap.size, 0, none⟩ = some (.int .i64 I.kind) := (HB3.out.i.cell 0).trans rfl
                          have dif0 := HB3.out.i.frozen 0
                          have dic1 : wr.cell? ⟨w.heap.size, 1, none⟩ = some (.int .i64 I.cap) := (HB3.out.i.cell 1).trans rfl
                          have dif1 := HB3.out.i.frozen 1
                          have dic2 : wr.cell? ⟨w.heap.size, 2, none⟩ = some (.slice A1 I.items.length c1) := (HB3.out.i.cell 2).trans rfl
                          have dif2 := HB3.out.i.frozen 2
                          have dic3 : wr.cell? ⟨w.heap.size, 3, none⟩ = some (.slice (some ⟨g, o, none⟩) I.cost.length c2) := (HB3.out.i.cell 3).trans rfl
                          have dif3 := HB3.out.i.frozen 3
                          have dic4 : wr.cell? ⟨w.heap.size, 4, none⟩ = some (.int .i64 I.size) := (HB3.out.i.cell 4).trans rfl
                          have dif4 := HB3.out.i.frozen 4
                          have dic5 : wr.cell? ⟨w.heap.size, 5, none⟩ = some (.slice A3 I.sets.length c3) := (HB3.out.i.cell 5).trans rfl
                          have dif5 := HB3.out.i.frozen 5
                          have djz : (w.heap.size + 1) < wr.heap.size := HB3.out.j.lt
                          have djc0 : wr.cell? ⟨(w.heap.size + 1), 0, none⟩ = some (.int .i64 J.kind) := (HB3.out.j.cell 0).trans rfl
                          have djf0 := HB3.out.j.frozen 0
                          have djc1 : wr.cell? ⟨(w.heap.size + 1), 1, none⟩ = some (.int .i64 J.cap) := (HB3.out.j.cell 1).trans rfl
                          have djf1 := HB3.out.j.frozen 1
                          have djc2 : wr.cell? ⟨(w.heap.size + 1), 2, none⟩ = some (.slice D1 J.items.length d1) := (HB3.out.j.cell 2).trans rfl
                          have djf2 := HB3.out.j.frozen 2
                          have djc3 : wr.cell? ⟨(w.heap.size + 1), 3, none⟩ = some (.slice (some ⟨g', o', none⟩) J.cost.length d2) := (HB3.out.j.cell 3).trans rfl
                          have djf3 := HB3.out.j.frozen 3
                          have djc4 : wr.cell? ⟨(w.heap.size + 1), 4, none⟩ = some (.int .i64 J.size) := (HB3.out.j.cell 4).trans rfl
                          have djf4 := HB3.out.j.frozen 4
                          have djc5 : wr.cell? ⟨(w.heap.size + 1), 5, none⟩ = some (.slice D3 J.sets.length d3) := (HB3.out.j.cell 5).trans rfl
                          have djf5 := HB3.out.j.frozen 5
                          by_cases hlt2 : j < x.length
                          · obtain ⟨a, ha⟩ : ∃ a, x[j]? = some a := ⟨_, List.getElem?_eq_getElem hlt2⟩
                            obtain ⟨b, hbb⟩ : ∃ b, y[j]? = some b := ⟨_, List.getElem?_eq_getElem (by have := HLN.out; omega)⟩
                            have hk2 := hk.out.trans (Alike.of_below be2 (by have := HBB.out; omega))
                            obtain ⟨ga, oa, rfl, hba, hca⟩ := (HX.out.keep hk2).get ha
                            obtain ⟨gb, ob, rfl, hbb2, hcb⟩ := (HY.out.keep hk2).get hbb
                            have h3 := drop_two ha hbb
                            have j0 : (0 : Int) ≤ (j : Int) := by omega
                            have j1 : (j : Int) < (x.length : Int) := by omega
                            have j2 : (j : Int) < (y.length : Int) := by have := HLN.out; omega
                            have j3 : j < y.length := by omega
                            by_cases hab : a = b
                            · have HR2 : Hid (x = y ↔ x.drop (j + 1) = y.drop (j + 1)) := Lib.hid (by rw [HR.out, h3]; simp [hab])
                              subst hab
                              clear h3 ha hbb hk2
                              go_wp2_with fail
                              go_quiet (fail)
                              go_wp2_with fail
                              go_roundw
                              case rel => exact ⟨j + 1, by go_num, by omega, HR2, bl_step be2 (bl_dn _ _)⟩
                              case measure => simp only [intOf]; omega
                            · have HF : Hid (eqD I J = false) := Lib.hid (by
                                rw [HE1.out, decide_eq_false]
                                intro hh
                                exact hab ((h3.1 (HR.out.1 (H2.out.1 (HE.out.1 hh.1)).1)).1))
                              have q1 : (a == b) = false := by simpa using hab
                              have q2 : (a != b) = true := by simpa using hab
                              clear h3 ha hbb hab hk2
                              go_wp2_with fail
                              go_quiet (fail)
                              go_wp2
                              go_ret
                              exact ⟨by rw [HF.out]; rfl, (HB3.out.below (bl_dn _ _)).b⟩
                          · obtain rfl : j = x.length := by omega
                            have HE2 : Hid (I.cost = J.cost ↔ I.cost.drop (i + 1) = J.cost.drop (i + 1)) := Lib.hid (by
                              have hxy : x = y := HR.out.2 (drop_end HLN.out)
                              rw [HE.out, H2.out]; simp [hxy])
                            go_wp2_with fail
                            go_roundw
                            case rel => exact ⟨i + 1, by go_num, by omega, HE2, HB3⟩
                            case measure => simp only [intOf]; omega
                      · have HF : Hid (eqD I J = false) := Lib.hid (by
                          rw [HE1.out, decide_eq_false]
                          exact fun hh => hlen (by rw [(h2.1 (HE.out.1 hh.1)).1]))
                        have k1 : (x.length == y.length) = false := by simp; omega
                        have k2 : ((x.length : Int) == (y.length : Int)) = false := by rw [beq_eq_false_iff_ne]; omega
                        have k3 : (x.length != y.length) = true := by simp; omega
                        have k4 : ((x.length : Int) != (y.length : Int)) = true := by rw [bne_iff_ne]; omega
                        clear h2 hx hy hlen hx3 hy3
                        go_wp2_with fail
                        go_quiet (fail)
                        go_wp2
                        go_ret
                        exact ⟨by rw [HF.out]; rfl, (HB.out.below (bl_dn _ _)).b⟩
                    · obtain rfl : i = I.cost.length := by omega
                      have HE2 : Hid (eqD I J = decide (I.sets = J.sets)) := Lib.hid (by
                        have hit : I.cost = J.cost := HE.out.2 (drop_end HL2.out)
                        rw [HE1.out, Bool.eq_iff_iff]; simp [hit])
                      clear HE1 HE hlt hi
                      go_wp2_with fail
                      go_loopw [8] (fun vi wr => ∃ i : Nat, vi = .int .i64 i ∧ i ≤ I.sets.length ∧ Hid (I.sets = J.sets ↔ I.sets.drop i = J.sets.drop i) ∧ Hid (TwoAt wr w I J A1 A2 A3 D1 D2 D3 c1 c2 c3 d1 d2 d3)) (fun vi _ => I.sets.length - (intOf vi).toNat)
                      case atStart => exact ⟨0, rfl, Nat.zero_le _, Lib.hid (by simp), HB⟩
                      case round =>
                        clear HB biz bic0 bif0 bic1 bif1 bic2 bif2 bic3 bif3 bic4 bif4 bic5 bif5 bjz bjc0 bjf0 bjc1 bjf1 bjc2 bjf2 bjc3 bjf3 bjc4 bjf4 bjc5 bjf5
                        obtain ⟨i, rfl, hi, HE, HB⟩ := hrel
                        have fiz : w.heap.size < wr.heap.size := HB.out.i.lt
                        have fic0 : wr.cell? ⟨w.heap.size, 0, none⟩ = some (.int .i64 I.kind) := (HB.out.i.cell 0).trans rfl
                        have fif0 := HB.out.i.frozen 0
                        have fic1 : wr.cell? ⟨w.heap.size, 1, none⟩ = some (.int .i64 I.cap) := (HB.out.i.cell 1).trans rfl
                        have fif1 := HB.out.i.frozen 1
                        have fic2 : wr.cell? ⟨w.heap.size, 2, none⟩ = some (.slice A1 I.items.length c1) := (HB.out.i.cell 2).trans rfl
                        have fif2 := HB.out.i.frozen 2
                        have fic3 : wr.cell? ⟨w.heap.size, 3, none⟩ = some (.slice A2 I.cost.length c2) := (HB.out.i.cell 3).trans rfl
                        have fif3 := HB.out.i.frozen 3
                        have fic4 : wr.cell? ⟨w.heap.size, 4, none⟩ = some (.int .i64 I.size) := (HB.out.i.cell 4).trans rfl
                        have fif4 := HB.out.i.frozen 4
                        have fic5 : wr.cell? ⟨w.heap.size, 5, none⟩ = some (.slice A3 I.sets.length c3) := (HB.out.i.cell 5).trans rfl
                        have fif5 := HB.out.i.frozen 5
                        have fjz : (w.heap.size + 1) < wr.heap.size := HB.out.j.lt
                        have fjc0 : wr.cell? ⟨(w.heap.size + 1), 0, none⟩ = some (.int .i64 J.kind) := (HB.out.j.cell 0).trans rfl
                        have fjf0 := HB.out.j.frozen 0
                        have fjc1 : wr.cell? ⟨(w.heap.size + 1), 1, none⟩ = some (.int .i64 J.cap) := (HB.out.j.cell 1).trans rfl
                        have fjf1 := HB.out.j.frozen 1
                        have fjc2 : wr.cell? ⟨(w.heap.size + 1), 2, none⟩ = some (.slice D1 J.items.length d1) := (HB.out.j.cell 2).trans rfl
                        have fjf2 := HB.out.j.frozen 2
                        have fjc3 : wr.cell? ⟨(w.heap.size + 1), 3, none⟩ = some (.slice D2 J.cost.length d2) := (HB.out.j.cell 3).trans rfl
                        have fjf3 := HB.out.j.frozen 3
                        have fjc4 : wr.cell? ⟨(w.heap.size + 1), 4, none⟩ = some (.int .i64 J.size) := (HB.out.j.cell 4).trans rfl
                        have fjf4 := HB.out.j.frozen 4
                        have fjc5 : wr.cell? ⟨(w.heap.size + 1), 5, none⟩ = some (.slice D3 J.sets.length d3) := (HB.out.j.cell 5).trans rfl
                        have fjf5 := HB.out.j.frozen 5
                        by_cases hlt : i < I.sets.length
                        · obtain ⟨x, hx⟩ : ∃ x, I.sets[i]? = some x := ⟨_, List.getElem?_eq_getElem hlt⟩
                          obtain ⟨y, hy⟩ : ∃ y, J.sets[i]? = some y := ⟨_, List.getElem?_eq_getElem (by have := HL3.out; omega)⟩
                          obtain ⟨g, o, X, cx, rfl, hb, hcx, hcx2, hx1, hx2, hx3⟩ := (HI.out.below HB.out.b).sets.get hx
                          obtain ⟨g', o', Y, cy, rfl, hb', hcy, hcy2, hy1, hy2, hy3⟩ := (HJ.out.below HB.out.b).sets.get hy
                          have h2 := drop_two hx hy
                          have i0 : (0 : Int) ≤ (i : Int) := by omega
                          have i1 : (i : Int) < (I.sets.length : Int) := by omega
                          have i2 : (i : Int) < (J.sets.length : Int) := by have := HL3.out; omega
                          have i3 : i < J.sets.length := by omega
                          have hbd := (HI.out.below HB.out.b).bd
                          have hg1 : g < wr.heap.size := by omega
                          have hg2 : g' < wr.heap.size := by omega
                          have HQ := Lib.hid (fun w' (hb : Below wr.heap.size wr w') => bints_any x.2 y.2 X Y cx cy w' (hx3.keep (Alike.of_below hb hbd)) (hy3.keep (Alike.of_below hb hbd)) ⟨hx1, hx2⟩ ⟨hy1, hy2⟩ (by have := hb.size; omega))
                          clear hx3 hy3
                          have HH2 := Lib.hid h2
                          clear h2 hx hy
                          by_cases e1 : x.1 = y.1
                          · have q1 : (x.1 == y.1) = true := by simpa using e1
                            have q3 : (x.1 != y.1) = false := by simpa using e1
                            by_cases e2 : x.2 = y.2
                            · have HE3 : Hid (I.sets = J.sets ↔ I.sets.drop (i + 1) = J.sets.drop (i + 1)) := Lib.hid (by rw [HE.out, HH2.out]; simp [Prod.ext e1 e2])
                              rw [decide_eq_true e2] at HQ
                              clear e1 e2 HH2
                              go_wp2_with fail
                              refine wp_region_still_tail 12 (by kernel_rfl) (by kernel_rfl) ?_
                              simp only [List.take_succ_cons, List.take_zero, List.drop_succ_cons, List.drop_zero]
                              change wpStill _ _ (World.drew _) _ _ _
                              repeat still_step
                              refine wpStill_nil ?_
                              change wpList _ _ _ _ _ (World.drew _)
                              go_wp2_with fail
                              (with_reducible refine (HQ.out _ (bl_drew (Below.refl _ _))).mono ?_); rintro e u1 ⟨rfl, hq1⟩
                              have bu : Below wr.heap.size wr u1 := bl_step (bl_drew (Below.refl _ _)) hq1
                              have HBu := Lib.hid (HB.out.below bu)
                              have kx1 : u1.cell? ⟨g, o + i * 2, none⟩ = some (.int .i64 x.1) := (bu.cell (p := ⟨g, o + i * 2, none⟩) hg1).trans hcx
                              have ky1 : u1.cell? ⟨g', o' + i * 2, none⟩ = some (.int .i64 y.1) := (bu.cell (p := ⟨g', o' + i * 2, none⟩) hg2).trans hcy
                              clear fiz fic0 fif0 fic1 fif1 fic2 fif2 fic3 fif3 fic4 fif4 fic5 fif5 fjz fjc0 fjf0 fjc1 fjf1 fjc2 fjf2 fjc3 fjf3 fjc4 fjf4 fjc5 fjf5 hcx hcx2 hcy hcy2
                              have hiz : w.heap.size < u1.heap.size := HBu.out.i.lt
                              have hic0 : u1.cell? ⟨w.heap.size, 0, none⟩ = some (.int .i64 I.kind) := (HBu.out.i.cell 0).trans rfl
                              have hif0 := HBu.out.i.frozen 0
                              have hic1 : u1.cell? ⟨w.heap.size, 1, none⟩ = some (.int .i64 I.cap) := (HBu.out.i.cell 1).trans rfl
                              have hif1 := HBu.out.i.frozen 1
                              have hic2 : u1.cell? ⟨w.heap.size, 2, none⟩ = some (.slice A1 I.items.length c1) := (HBu.out.i.cell 2).trans rfl
                              have hif2 := HBu.out.i.frozen 2
                              have hic3 : u1.cell? ⟨w.heap.size, 3, none⟩ = some (.slice A2 I.cost.length c2) := (HBu.out.i.cell 3).trans rfl
                              have hif3 := HBu.out.i.frozen 3
                              have hic4 : u1.cell? ⟨w.heap.size, 4, none⟩ = some (.int .i64 I.size) := (HBu.out.i.cell 4).trans rfl
                              have hif4 := HBu.out.i.frozen 4
                              have hic5 : u1.cell? ⟨w.heap.size, 5, none⟩ = some (.slice (some ⟨g, o, none⟩) I.sets.length c3) := (HBu.out.i.cell 5).trans rfl
                              have hif5 := HBu.out.i.frozen 5
                              have hjz : (w.heap.size + 1) < u1.heap.size := HBu.out.j.lt
                              have hjc0 : u1.cell? ⟨(w.heap.size + 1), 0, none⟩ = some (.int .i64 J.kind) := (HBu.out.j.cell 0).trans rfl
                              have hjf0 := HBu.out.j.frozen 0
                              have hjc1 : u1.cell? ⟨(w.heap.size + 1), 1, none⟩ = some (.int .i64 J.cap) := (HBu.out.j.cell 1).trans rfl
                              have hjf1 := HBu.out.j.frozen 1
                              have hjc2 : u1.cell? ⟨(w.heap.size + 1), 2, none⟩ = some (.slice D1 J.items.length d1) := (HBu.out.j.cell 2).trans rfl
                              have hjf2 := HBu.out.j.frozen 2
                              have hjc3 : u1.cell? ⟨(w.heap.size + 1), 3, none⟩ = some (.slice D2 J.cost.length d2) := (HBu.out.j.cell 3).trans rfl
                              have hjf3 := HBu.out.j.frozen 3
                              have hjc4 : u1.cell? ⟨(w.heap.size + 1), 4, none⟩ = some (.int .i64 J.size) := (HBu.out.j.cell 4).trans rfl
                              have hjf4 := HBu.out.j.frozen 4
                              have hjc5 : u1.cell? ⟨(w.heap.size + 1), 5, none⟩ = some (.slice (some ⟨g', o', none⟩) J.sets.length d3) := (HBu.out.j.cell 5).trans rfl
                              have hjf5 := HBu.out.j.frozen 5
                              go_wp2_with fail
                              go_quiet (fail)
                              go_wp2_with fail
                              go_roundw
                              case rel => exact ⟨i + 1, by go_num, by omega, HE3, Lib.hid (HBu.out.below (bl_dn _ _))⟩
                              case measure => simp only [intOf]; omega
                            · have HF : Hid (eqD I J = false) := Lib.hid (by rw [HE2.out, decide_eq_false]; exact fun hh => e2 (by rw [(HH2.out.1 (HE.out.1 hh)).1]))
                              rw [decide_eq_false e2] at HQ
                              clear e1 e2 HH2
                              go_wp2_with fail
                              refine wp_region_still_tail 12 (by kernel_rfl) (by kernel_rfl) ?_
                              simp only [List.take_succ_cons, List.take_zero, List.drop_succ_cons, List.drop_zero]
                              change wpStill _ _ (World.drew _) _ _ _
                              repeat still_step
                              refine wpStill_nil ?_
                              change wpList _ _ _ _ _ (World.drew _)
                              go_wp2_with fail
                              (with_reducible refine (HQ.out _ (bl_drew (Below.refl _ _))).mono ?_); rintro e u1 ⟨rfl, hq1⟩
                              have bu : Below wr.heap.size wr u1 := bl_step (bl_drew (Below.refl _ _)) hq1
                              have HBu := Lib.hid (HB.out.below bu)
                              have kx1 : u1.cell? ⟨g, o + i * 2, none⟩ = some (.int .i64 x.1) := (bu.cell (p := ⟨g, o + i * 2, none⟩) hg1).trans hcx
                              have ky1 : u1.cell? ⟨g', o' + i * 2, none⟩ = some (.int .i64 y.1) := (bu.cell (p := ⟨g', o' + i * 2, none⟩) hg2).trans hcy
                              clear fiz fic0 fif0 fic1 fif1 fic2 fif2 fic3 fif3 fic4 fif4 fic5 fif5 fjz fjc0 fjf0 fjc1 fjf1 fjc2 fjf2 fjc3 fjf3 fjc4 fjf4 fjc5 fjf5 hcx hcx2 hcy hcy2
                              have hiz : w.heap.size < u1.heap.size := HBu.out.i.lt
                              have hic0 : u1.cell? ⟨w.heap.size, 0, none⟩ = some (.int .i64 I.kind) := (HBu.out.i.cell 0).trans rfl
                              have hif0 := HBu.out.i.frozen 0
                              have hic1 : u1.cell? ⟨w.heap.size, 1, none⟩ = some (.int .i64 I.cap) := (HBu.out.i.cell 1).trans rfl
                              have hif1 := HBu.out.i.frozen 1
                              have hic2 : u1.cell? ⟨w.heap.size, 2, none⟩ = some (.slice A1 I.items.length c1) := (HBu.out.i.cell 2).trans rfl
                              have hif2 := HBu.out.i.frozen 2
                              have hic3 : u1.cell? ⟨w.heap.size, 3, none⟩ = some (.slice A2 I.cost.length c2) := (HBu.out.i.cell 3).trans rfl
                              have hif3 := HBu.out.i.frozen 3
                              have hic4 : u1.cell? ⟨w.heap.size, 4, none⟩ = some (.int .i64 I.size) := (HBu.out.i.cell 4).trans rfl
                              have hif4 := HBu.out.i.frozen 4
                              have hic5 : u1.cell? ⟨w.heap.size, 5, none⟩ = some (.slice (some ⟨g, o, none⟩) I.sets.length c3) := (HBu.out.i.cell 5).trans rfl
                              have hif5 := HBu.out.i.frozen 5
                              have hjz : (w.heap.size + 1) < u1.heap.size := HBu.out.j.lt
                              have hjc0 : u1.cell? ⟨(w.heap.size + 1), 0, none⟩ = some (.int .i64 J.kind) := (HBu.out.j.cell 0).trans rfl
                              have hjf0 := HBu.out.j.frozen 0
                              have hjc1 : u1.cell? ⟨(w.heap.size + 1), 1, none⟩ = some (.int .i64 J.cap) := (HBu.out.j.cell 1).trans rfl
                              have hjf1 := HBu.out.j.frozen 1
                              have hjc2 : u1.cell? ⟨(w.heap.size + 1), 2, none⟩ = some (.slice D1 J.items.length d1) := (HBu.out.j.cell 2).trans rfl
                              have hjf2 := HBu.out.j.frozen 2
                              have hjc3 : u1.cell? ⟨(w.heap.size + 1), 3, none⟩ = some (.slice D2 J.cost.length d2) := (HBu.out.j.cell 3).trans rfl
                              have hjf3 := HBu.out.j.frozen 3
                              have hjc4 : u1.cell? ⟨(w.heap.size + 1), 4, none⟩ = some (.int .i64 J.size) := (HBu.out.j.cell 4).trans rfl
                              have hjf4 := HBu.out.j.frozen 4
                              have hjc5 : u1.cell? ⟨(w.heap.size + 1), 5, none⟩ = some (.slice (some ⟨g', o', none⟩) J.sets.length d3) := (HBu.out.j.cell 5).trans rfl
                              have hjf5 := HBu.out.j.frozen 5
                              go_wp2_with fail
                              go_quiet (fail)
                              go_wp2
                              go_ret
                              exact ⟨by rw [HF.out]; rfl, (HBu.out.below (bl_dn _ _)).b⟩
                          · have q1 : (x.1 == y.1) = false := by simpa using e1
                            have q3 : (x.1 != y.1) = true := by simpa using e1
                            have HF : Hid (eqD I J = false) := Lib.hid (by rw [HE2.out, decide_eq_false]; exact fun hh => e1 (by rw [(HH2.out.1 (HE.out.1 hh)).1]))
                            clear e1 HH2
                            generalize decide (x.2 = y.2) = z at HQ
                            go_wp2_with fail
                            refine wp_region_still_tail 12 (by kernel_rfl) (by kernel_rfl) ?_
                            simp only [List.take_succ_cons, List.take_zero, List.drop_succ_cons, List.drop_zero]
                            change wpStill _ _ (World.drew _) _ _ _
                            repeat still_step
                            refine wpStill_nil ?_
                            change wpList _ _ _ _ _ (World.drew _)
                            go_wp2_with fail
                            (with_reducible refine (HQ.out _ (bl_drew (Below.refl _ _))).mono ?_); rintro e u1 ⟨rfl, hq1⟩
                            have bu : Below wr.heap.size wr u1 := bl_step (bl_drew (Below.refl _ _)) hq1
                            have HBu := Lib.hid (HB.out.below bu)
                            have kx1 : u1.cell? ⟨g, o + i * 2, none⟩ = some (.int .i64 x.1) := (bu.cell (p := ⟨g, o + i * 2, none⟩) hg1).trans hcx
                            have ky1 : u1.cell? ⟨g', o' + i * 2, none⟩ = some (.int .i64 y.1) := (bu.cell (p := ⟨g', o' + i * 2, none⟩) hg2).trans hcy
                            clear fiz fic0 fif0 fic1 fif1 fic2 fif2 fic3 fif3 fic4 fif4 fic5 fif5 fjz fjc0 fjf0 fjc1 fjf1 fjc2 fjf2 fjc3 fjf3 fjc4 fjf4 fjc5 fjf5 hcx hcx2 hcy hcy2
                            have hiz : w.heap.size < u1.heap.size := HBu.out.i.lt
                            have hic0 : u1.cell? ⟨w.heap.size, 0, none⟩ = some (.int .i64 I.kind) := (HBu.out.i.cell 0).trans rfl
                            have hif0 := HBu.out.i.frozen 0
                            have hic1 : u1.cell? ⟨w.heap.size, 1, none⟩ = some (.int .i64 I.cap) := (HBu.out.i.cell 1).trans rfl
                            have hif1 := HBu.out.i.frozen 1
                            have hic2 : u1.cell? ⟨w.heap.size, 2, none⟩ = some (.slice A1 I.items.length c1) := (HBu.out.i.cell 2).trans rfl
                            have hif2 := HBu.out.i.frozen 2
                            have hic3 : u1.cell? ⟨w.heap.size, 3, none⟩ = some (.slice A2 I.cost.length c2) := (HBu.out.i.cell 3).trans rfl
                            have hif3 := HBu.out.i.frozen 3
                            have hic4 : u1.cell? ⟨w.heap.size, 4, none⟩ = some (.int .i64 I.size) := (HBu.out.i.cell 4).trans rfl
                            have hif4 := HBu.out.i.frozen 4
                            have hic5 : u1.cell? ⟨w.heap.size, 5, none⟩ = some (.slice (some ⟨g, o, none⟩) I.sets.length c3) := (HBu.out.i.cell 5).trans rfl
                            have hif5 := HBu.out.i.frozen 5
                            have hjz : (w.heap.size + 1) < u1.heap.size := HBu.out.j.lt
                            have hjc0 : u1.cell? ⟨(w.heap.size + 1), 0, none⟩ = some (.int .i64 J.kind) := (HBu.out.j.cell 0).trans rfl
                            have hjf0 := HBu.out.j.frozen 0
                            have hjc1 : u1.cell? ⟨(w.heap.size + 1), 1, none⟩ = some (.int .i64 J.cap) := (HBu.out.j.cell 1).trans rfl
                            have hjf1 := HBu.out.j.frozen 1
                            have hjc2 : u1.cell? ⟨(w.heap.size + 1), 2, none⟩ = some (.slice D1 J.items.length d1) := (HBu.out.j.cell 2).trans rfl
                            have hjf2 := HBu.out.j.frozen 2
                            have hjc3 : u1.cell? ⟨(w.heap.size + 1), 3, none⟩ = some (.slice D2 J.cost.length d2) := (HBu.out.j.cell 3).trans rfl
                            have hjf3 := HBu.out.j.frozen 3
                            have hjc4 : u1.cell? ⟨(w.heap.size + 1), 4, none⟩ = some (.int .i64 J.size) := (HBu.out.j.cell 4).trans rfl
                            have hjf4 := HBu.out.j.frozen 4
                            have hjc5 : u1.cell? ⟨(w.heap.size + 1), 5, none⟩ = some (.slice (some ⟨g', o', none⟩) J.sets.length d3) := (HBu.out.j.cell 5).trans rfl
                            have hjf5 := HBu.out.j.frozen 5
                            go_wp2_with fail
                            go_quiet (fail)
                            go_wp2
                            go_ret
                            exact ⟨by rw [HF.out]; rfl, (HBu.out.below (bl_dn _ _)).b⟩
                        · obtain rfl : i = I.sets.length := by omega
                          have HT : Hid (eqD I J = true) := Lib.hid (by
                            have hit : I.sets = J.sets := HE.out.2 (drop_end HL3.out)
                            rw [HE2.out, decide_eq_true hit])
                          go_wp2
                          go_ret
                          exact ⟨by rw [HT.out]; rfl, HB.out.b⟩
            · have u31 : (I.sets.length == J.sets.length) = false := by rw [beq_eq_false_iff_ne]; omega
              have u32 : ((I.sets.length : Int) == (J.sets.length : Int)) = false := by rw [beq_eq_false_iff_ne]; omega
              have u33 : (I.sets.length != J.sets.length) = true := by rw [bne_iff_ne]; omega
              have u34 : ((I.sets.length : Int) != (J.sets.length : Int)) = true := by rw [bne_iff_ne]; omega
              have HF : Hid (eqD I J = false) := Lib.hid (eqD_not (by omega))
              clear hk hc hs h1 h2 h3
              go_enter Tryd.func28, Tryd.ntmps28
              go_wp2
              go_ret
              exact ⟨by rw [HF.out]; rfl, bl_alloc (bl_alloc (Below.refl _ _) _) _⟩
          · have u21 : (I.cost.length == J.cost.length) = false := by rw [beq_eq_false_iff_ne]; omega
            have u22 : ((I.cost.length : Int) == (J.cost.length : Int)) = false := by rw [beq_eq_false_iff_ne]; omega
            have u23 : (I.cost.length != J.cost.length) = true := by rw [bne_iff_ne]; omega
            have u24 : ((I.cost.length : Int) != (J.cost.length : Int)) = true := by rw [bne_iff_ne]; omega
            have HF : Hid (eqD I J = false) := Lib.hid (eqD_not (by omega))
            clear hk hc hs h1 h2
            go_enter Tryd.func28, Tryd.ntmps28
            go_wp2
            go_ret
            exact ⟨by rw [HF.out]; rfl, bl_alloc (bl_alloc (Below.refl _ _) _) _⟩
        · have u11 : (I.items.length == J.items.length) = false := by rw [beq_eq_false_iff_ne]; omega
          have u12 : ((I.items.length : Int) == (J.items.length : Int)) = false := by rw [beq_eq_false_iff_ne]; omega
          have u13 : (I.items.length != J.items.length) = true := by rw [bne_iff_ne]; omega
          have u14 : ((I.items.length : Int) != (J.items.length : Int)) = true := by rw [bne_iff_ne]; omega
          have HF : Hid (eqD I J = false) := Lib.hid (eqD_not (by omega))
          clear hk hc hs h1
          go_enter Tryd.func28, Tryd.ntmps28
          go_wp2
          go_ret
          exact ⟨by rw [HF.out]; rfl, bl_alloc (bl_alloc (Below.refl _ _) _) _⟩
      · have qs : (I.size == J.size) = false := by simpa using hs
        have ms : (I.size != J.size) = true := by simpa using hs
        have HF : Hid (eqD I J = false) := Lib.hid (eqD_not (by omega))
        clear hk hc hs
        go_enter Tryd.func28, Tryd.ntmps28
        go_wp2
        go_ret
        exact ⟨by rw [HF.out]; rfl, bl_alloc (bl_alloc (Below.refl _ _) _) _⟩
    · have qc : (I.cap == J.cap) = false := by simpa using hc
      have mc : (I.cap != J.cap) = true := by simpa using hc
      have HF : Hid (eqD I J = false) := Lib.hid (eqD_not (by omega))
      clear hk hc
      go_enter Tryd.func28, Tryd.ntmps28
      go_wp2
      go_ret
      exact ⟨by rw [HF.out]; rfl, bl_alloc (bl_alloc (Below.refl _ _) _) _⟩
  · have qk : (I.kind == J.kind) = false := by simpa using hk
    have mk : (I.kind != J.kind) = true := by simpa using hk
    have HF : Hid (eqD I J = false) := Lib.hid (eqD_not (by omega))
    clear hk
    go_enter Tryd.func28, Tryd.ntmps28
    go_wp2
    go_ret
    exact ⟨by rw [HF.out]; rfl, bl_alloc (bl_alloc (Below.refl _ _) _) _⟩
end Go.Proofs.YtklomjpnmmaogaaDoor
