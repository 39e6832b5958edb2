/- The walks of instances, part J: which instances are the same. -/
import Derived.Test.YtklomjpnmmaogaaDoorII
namespace Go.Proofs.YtklomjpnmmaogaaDoor
open Go.RowKit
set_option linter.unusedVariables false
set_option linter.unusedSimpArgs false
set_option maxRecDepth 100000

theorem fnv (f : FuncId) : True := trivial
set_option maxHeartbeats 3200000 in
theorem eqrr_any (l m : List (List Int)) (A A' : Option Addr) (c c' : Nat) (w : World) {B : Nat} (hl : RdR w B A l) (hm : RdR w B A' m) (hc : l.length ≤ c ∧ c ≤ 9223372036854775807) (hc' : m.length ≤ c' ∧ c' ≤ 9223372036854775807) (hB : B ≤ w.heap.size) :
    Calls Tryd.prog 36 #[.slice A l.length c, .slice A' m.length c', .func (.func 37) #[] #[]] w fun e w' => e = .returned (.bool (decide (l = m))) ∧ Below w.heap.size w w' := by
  have HLL := Lib.hid hl
  have HMM := Lib.hid hm
  clear hl hm
  by_cases hn : l.length = m.length
  · have HN := Lib.hid hn
    have j1 : (l.length == m.length) = true := by simp; omega
    have j2 : ((l.length : Int) == (m.length : Int)) = true := by rw [beq_iff_eq]; omega
    have j3 : (l.length != m.length) = false := by simp; omega
    have j4 : ((l.length : Int) != (m.length : Int)) = false := by rw [bne_eq_false_iff_eq]; omega
    clear hn
    go_enter Tryd.func36, Tryd.ntmps36
    go_wp2_with fail
    go_loopw [17] (fun vi wr => ∃ i : Nat, vi = .int .i64 i ∧ i ≤ l.length ∧ Hid (l = m ↔ l.drop i = m.drop i) ∧ Below w.heap.size w wr) (fun vi _ => l.length - (intOf vi).toNat)
    case atStart => exact ⟨0, rfl, Nat.zero_le _, Lib.hid (by simp), Below.refl _ _⟩
    case round =>
      obtain ⟨i, rfl, hi, HE, be⟩ := hrel
      by_cases hlt : i < l.length
      · obtain ⟨x, hx⟩ : ∃ x, l[i]? = some x := ⟨_, List.getElem?_eq_getElem hlt⟩
        obtain ⟨y, hy⟩ : ∃ y, m[i]? = some y := ⟨_, List.getElem?_eq_getElem (by have := HN.out; omega)⟩
        have hk := Alike.of_below be hB
        obtain ⟨g, o, X, cx, rfl, hb, hcx, hx1, hx2, hx3⟩ := (HLL.out.keep hk).get hx
        obtain ⟨g', o', Y, cy, rfl, hb', hcy, hy1, hy2, hy3⟩ := (HMM.out.keep hk).get hy
        have h2 := drop_two hx hy
        have i3 : i < m.length := by have := HN.out; omega
        have HQ := Lib.hid (eqi_any x y X Y cx cy wr hx3 hy3 ⟨hx1, hx2⟩ ⟨hy1, hy2⟩ (by have := be.size; omega))
        by_cases hxy : x = y
        · have HE2 : Hid (l = m ↔ l.drop (i + 1) = m.drop (i + 1)) := Lib.hid (by rw [HE.out, h2]; simp [hxy])
          rw [decide_eq_true hxy] at HQ
          clear h2 hx hy hxy hk hx3 hy3
          go_wp2_with fail
          (with_reducible refine HQ.out.mono ?_); rintro e q1 ⟨rfl, hq1⟩
          go_wp2_with fail
          go_roundw
          case rel => exact ⟨i + 1, by go_num, by omega, HE2, bl_step be hq1⟩
          case measure => simp only [intOf]; omega
        · have HF : Hid (¬ l = m) := Lib.hid (by rw [HE.out, h2]; exact fun h => hxy h.1)
          rw [decide_eq_false hxy] at HQ
          clear h2 hx hy hxy hk hx3 hy3
          go_wp2_with fail
          (with_reducible refine HQ.out.mono ?_); rintro e q1 ⟨rfl, hq1⟩
          go_wp2
          go_ret
          exact ⟨by rw [decide_eq_false HF.out]; rfl, bl_step be hq1⟩
      · obtain rfl : i = l.length := by omega
        have HT : Hid (l = m) := Lib.hid (HE.out.2 (drop_end HN.out))
        go_wp2
        go_ret
        exact ⟨by rw [decide_eq_true HT.out]; rfl, be⟩
  · have HN : Hid (¬ l = m) := Lib.hid (fun h => hn (by rw [h]))
    have j1 : (l.length == m.length) = false := by simp; omega
    have j2 : ((l.length : Int) == (m.length : Int)) = false := by rw [beq_eq_false_iff_ne]; omega
    have j3 : (l.length != m.length) = true := by simp; omega
    have j4 : ((l.length : Int) != (m.length : Int)) = true := by rw [bne_iff_ne]; omega
    clear hn
    go_enter Tryd.func36, Tryd.ntmps36
    go_wp2
    go_ret
    exact ⟨by rw [decide_eq_false HN.out]; rfl, Below.refl _ _⟩
set_option maxHeartbeats 1600000 in
theorem sameset_any (p q : Int × List Int) (X Y : Option Addr) (cx cy : Nat) (w : World) {B : Nat} (hx : RdI w B X p.2) (hy : RdI w B Y q.2) (hc : p.2.length ≤ cx ∧ cx ≤ 9223372036854775807) (hc' : q.2.length ≤ cy ∧ cy ≤ 9223372036854775807) (hB : B ≤ w.heap.size) :
    Calls Tryd.prog 39 #[.agg #[.int .i64 p.1, .slice X p.2.length cx], .agg #[.int .i64 q.1, .slice Y q.2.length cy]] w fun e w' => e = .returned (.bool (decide (p = q))) ∧ Below w.heap.size w w' := by
  have HQ := Lib.hid (fun w' (hb : Below w.heap.size w w') => eqn_any p.2 q.2 X Y cx cy w' (hx.keep (Alike.of_below hb hB)) (hy.keep (Alike.of_below hb hB)) hc hc' (by have := hb.size; omega))
  clear hx hy
  by_cases h1 : p.1 = q.1
  · have hd : decide (p = q) = decide (p.2 = q.2) := by
      by_cases h2 : p.2 = q.2
      · rw [decide_eq_true h2, decide_eq_true (Prod.ext h1 h2)]
      · rw [decide_eq_false h2, decide_eq_false (fun h => h2 (by rw [h]))]
    rw [hd]
    have q1 : (p.1 == q.1) = true := by simpa using h1
    clear hd h1
    generalize decide (p.2 = q.2) = z at HQ ⊢
    go_enter Tryd.func39, Tryd.ntmps39
    go_wp2_with fail
    (with_reducible refine (HQ.out _ (bl_alloc (bl_alloc (Below.refl _ _) _) _)).mono ?_); rintro e v1 ⟨rfl, hb1⟩
    have st1 := bl_step (bl_alloc (bl_alloc (Below.refl _ _) _) _) hb1
    have bl1 := st1
    have Bp_1 : Blk v1 (w.heap.size) 80 #[.int .i64 p.1, .slice X p.2.length cx] := ((Blk.new _ _ _).alloc _).below hb1
    have Bq_1 : Blk v1 (w.heap.size + 1) 80 #[.int .i64 q.1, .slice Y q.2.length cy] := (Blk.new' (by simp) _ _).below hb1
    have p_1_z : w.heap.size < v1.heap.size := Bp_1.lt
    have p_1_c0 : v1.cell? ⟨w.heap.size, 0, none⟩ = some (.int .i64 p.1) := (Bp_1.cell 0).trans rfl
    have p_1_f0 := Bp_1.frozen 0
    have p_1_c1 : v1.cell? ⟨w.heap.size, 1, none⟩ = some (.slice X p.2.length cx) := (Bp_1.cell 1).trans rfl
    have p_1_f1 := Bp_1.frozen 1
    have q_1_z : w.heap.size + 1 < v1.heap.size := Bq_1.lt
    have q_1_c0 : v1.cell? ⟨w.heap.size + 1, 0, none⟩ = some (.int .i64 q.1) := (Bq_1.cell 0).trans rfl
    have q_1_f0 := Bq_1.frozen 0
    have q_1_c1 : v1.cell? ⟨w.heap.size + 1, 1, none⟩ = some (.slice Y q.2.length cy) := (Bq_1.cell 1).trans rfl
    have q_1_f1 := Bq_1.frozen 1
    go_wp2
    go_ret
    exact ⟨by simp, bl1⟩
  · rw [decide_eq_false (fun h => h1 (by rw [h]))]
    have q1 : (p.1 == q.1) = false := by simpa using h1
    clear h1
    go_enter Tryd.func39, Tryd.ntmps39
    go_wp2
    go_ret
    exact ⟨rfl, bl_alloc (bl_alloc (Below.refl _ _) _) _⟩
set_option maxHeartbeats 6400000 in
theorem eqss_any (l m : List (Int × List Int)) (A A' : Option Addr) (c c' : Nat) (w : World) {B : Nat} (hl : RdS w B A l) (hm : RdS w B A' m) (hc : l.length ≤ c ∧ c ≤ 9223372036854775807) (hc' : m.length ≤ c' ∧ c' ≤ 9223372036854775807) (hB : B ≤ w.heap.size) :
    Calls Tryd.prog 38 #[.slice A l.length c, .slice A' m.length c', .func (.func 39) #[] #[]] w fun e w' => e = .returned (.bool (decide (l = m))) ∧ Below w.heap.size w w' := by
  have HLL := Lib.hid hl
  have HMM := Lib.hid hm
  clear hl hm
  by_cases hn : l.length = m.length
  · have HN := Lib.hid hn
    have j1 : (l.length == m.length) = true := by simp; omega
    have j2 : ((l.length : Int) == (m.length : Int)) = true := by rw [beq_iff_eq]; omega
    have j3 : (l.length != m.length) = false := by simp; omega
    have j4 : ((l.length : Int) != (m.length : Int)) = false := by rw [bne_eq_false_iff_eq]; omega
    clear hn
    go_enter Tryd.func38, Tryd.ntmps38
    go_wp2_with fail
    go_loopw [17] (fun vi wr => ∃ i : Nat, vi = .int .i64 i ∧ i ≤ l.length ∧ Hid (l = m ↔ l.drop i = m.drop i) ∧ Below w.heap.size w wr) (fun vi _ => l.length - (intOf vi).toNat)
    case atStart => exact ⟨0, rfl, Nat.zero_le _, Lib.hid (by simp), Below.refl _ _⟩
    case round =>
      obtain ⟨i, rfl, hi, HE, be⟩ := hrel
      by_cases hlt : i < l.length
      · obtain ⟨x, hx⟩ : ∃ x, l[i]? = some x := ⟨_, List.getElem?_eq_getElem hlt⟩
        obtain ⟨y, hy⟩ : ∃ y, m[i]? = some y := ⟨_, List.getElem?_eq_getElem (by have := HN.out; omega)⟩
        have hk := Alike.of_below be hB
        obtain ⟨g, o, X, cx, rfl, hb, hcx, hcx2, hx1, hx2, hx3⟩ := (HLL.out.keep hk).get hx
        obtain ⟨g', o', Y, cy, rfl, hb', hcy, hcy2, hy1, hy2, hy3⟩ := (HMM.out.keep hk).get hy
        have h2 := drop_two hx hy
        have i3 : i < m.length := by have := HN.out; omega
        have hbw : B ≤ wr.heap.size := by have := be.size; omega
        have gz : g < wr.heap.size := by omega
        have gz' : g' < wr.heap.size := by omega
        have HQ := Lib.hid (fun w' (hb : Below wr.heap.size wr w') => sameset_any x y X Y cx cy w' (hx3.keep (Alike.of_below hb hbw)) (hy3.keep (Alike.of_below hb hbw)) ⟨hx1, hx2⟩ ⟨hy1, hy2⟩ (by have := hb.size; omega))
        by_cases hxy : x = y
        · have HE2 : Hid (l = m ↔ l.drop (i + 1) = m.drop (i + 1)) := Lib.hid (by rw [HE.out, h2]; simp [hxy])
          rw [decide_eq_true hxy] at HQ
          clear h2 hx hy hxy hk hx3 hy3
          go_wp2_with fail
          (with_reducible refine (HQ.out _ (bl_alloc (bl_alloc (Below.refl _ _) _) _)).mono ?_); rintro e q1 ⟨rfl, hq1⟩
          go_wp2_with fail
          go_roundw
          case rel => exact ⟨i + 1, by go_num, by omega, HE2, bl_step be (bl_step (bl_alloc (bl_alloc (Below.refl _ _) _) _) hq1)⟩
          case measure => simp only [intOf]; omega
        · have HF : Hid (¬ l = m) := Lib.hid (by rw [HE.out, h2]; exact fun h => hxy h.1)
          rw [decide_eq_false hxy] at HQ
          clear h2 hx hy hxy hk hx3 hy3
          go_wp2_with fail
          (with_reducible refine (HQ.out _ (bl_alloc (bl_alloc (Below.refl _ _) _) _)).mono ?_); rintro e q1 ⟨rfl, hq1⟩
          go_wp2
          go_ret
          exact ⟨by rw [decide_eq_false HF.out]; rfl, bl_step be (bl_step (bl_alloc (bl_alloc (Below.refl _ _) _) _) hq1)⟩
      · obtain rfl : i = l.length := by omega
        have HT : Hid (l = m) := Lib.hid (HE.out.2 (drop_end HN.out))
        go_wp2
        go_ret
        exact ⟨by rw [decide_eq_true HT.out]; rfl, be⟩
  · have HN : Hid (¬ l = m) := Lib.hid (fun h => hn (by rw [h]))
    have j1 : (l.length == m.length) = false := by simp; omega
    have j2 : ((l.length : Int) == (m.length : Int)) = false := by rw [beq_eq_false_iff_ne]; omega
    have j3 : (l.length != m.length) = true := by simp; omega
    have j4 : ((l.length : Int) != (m.length : Int)) = true := by rw [bne_iff_ne]; omega
    clear hn
    go_enter Tryd.func38, Tryd.ntmps38
    go_wp2
    go_ret
    exact ⟨by rw [decide_eq_false HN.out]; rfl, Below.refl _ _⟩
def eqD (I J : IData) : Bool := (I.kind == J.kind) && ((I.cap == J.cap) && ((I.size == J.size) && (decide (I.items = J.items) && (decide (I.cost = J.cost) && decide (I.sets = J.sets)))))
set_option maxHeartbeats 6400000 in
theorem equal_any (I J : IData) (A1 A2 A3 D1 D2 D3 : Option Addr) (c1 c2 c3 d1 d2 d3 : Nat) (w : World) {B : Nat} (hI : InstAt w B I A1 c1 A2 c2 A3 c3) (hJ : InstAt w B J D1 d1 D2 d2 D3 d3) :
    Calls Tryd.prog 17 #[.agg #[.int .i64 I.kind, .int .i64 I.cap, .slice A1 I.items.length c1, .slice A2 I.cost.length c2, .int .i64 I.size, .slice A3 I.sets.length c3], .agg #[.int .i64 J.kind, .int .i64 J.cap, .slice D1 J.items.length d1, .slice D2 J.cost.length d2, .int .i64 J.size, .slice D3 J.sets.length d3]] w fun e w' => e = .returned (.bool (eqD I J)) ∧ Below w.heap.size w w' := by
  have H1 := Lib.hid (fun w' (hb : Below w.heap.size w w') => eqp_any I.items J.items A1 D1 c1 d1 w' (hI.below hb).items (hJ.below hb).items hI.n1 hJ.n1 (hI.below hb).bd)
  have H2 := Lib.hid (fun w' (hb : Below w.heap.size w w') => eqrr_any I.cost J.cost A2 D2 c2 d2 w' (hI.below hb).cost (hJ.below hb).cost hI.n2 hJ.n2 (hI.below hb).bd)
  have H3 := Lib.hid (fun w' (hb : Below w.heap.size w w') => eqss_any I.sets J.sets A3 D3 c3 d3 w' (hI.below hb).sets (hJ.below hb).sets hI.n3 hJ.n3 (hI.below hb).bd)
  clear hI hJ
  unfold eqD
  generalize decide (I.items = J.items) = x at H1 ⊢
  generalize decide (I.cost = J.cost) = y at H2 ⊢
  generalize decide (I.sets = J.sets) = z at H3 ⊢
  by_cases hk : I.kind = J.kind
  · have qk : (I.kind == J.kind) = true := by simpa using hk
    have mk : (I.kind != J.kind) = false := by simpa using hk
    clear hk
    by_cases hc : I.cap = J.cap
    · have qc : (I.cap == J.cap) = true := by simpa using hc
      have mc : (I.cap != J.cap) = false := by simpa using hc
      clear hc
      by_cases hs : I.size = J.size
      · have qs : (I.size == J.size) = true := by simpa using hs
        have ms : (I.size != J.size) = false := by simpa using hs
        clear hs
        cases x
        · go_enter Tryd.func17, Tryd.ntmps17
          go_wp2_with fail
          (with_reducible refine (H1.out _ (bl_alloc (bl_alloc (Below.refl _ _) _) _)).mono ?_); rintro e v1 ⟨rfl, hb1⟩
          have st1 := bl_step (bl_alloc (bl_alloc (Below.refl _ _) _) _) hb1
          have bl1 := st1
          have Bi_1 : Blk v1 (w.heap.size) 27 #[.int .i64 I.kind, .int .i64 I.cap, .slice A1 I.items.length c1, .slice A2 I.cost.length c2, .int .i64 I.size, .slice A3 I.sets.length c3] := ((Blk.new _ _ _).alloc _).below hb1
          have Bj_1 : Blk v1 (w.heap.size + 1) 27 #[.int .i64 J.kind, .int .i64 J.cap, .slice D1 J.items.length d1, .slice D2 J.cost.length d2, .int .i64 J.size, .slice D3 J.sets.length d3] := (Blk.new' (by simp) _ _).below hb1
          have i_1_z : w.heap.size < v1.heap.size := Bi_1.lt
          have i_1_c0 : v1.cell? ⟨w.heap.size, 0, none⟩ = some (.int .i64 I.kind) := (Bi_1.cell 0).trans rfl
          have i_1_f0 := Bi_1.frozen 0
          have i_1_c1 : v1.cell? ⟨w.heap.size, 1, none⟩ = some (.int .i64 I.cap) := (Bi_1.cell 1).trans rfl
          have i_1_f1 := Bi_1.frozen 1
          have i_1_c2 : v1.cell? ⟨w.heap.size, 2, none⟩ = some (.slice A1 I.items.length c1) := (Bi_1.cell 2).trans rfl
          have i_1_f2 := Bi_1.frozen 2
          have i_1_c3 : v1.cell? ⟨w.heap.size, 3, none⟩ = some (.slice A2 I.cost.length c2) := (Bi_1.cell 3).trans rfl
          have i_1_f3 := Bi_1.frozen 3
          have i_1_c4 : v1.cell? ⟨w.heap.size, 4, none⟩ = some (.int .i64 I.size) := (Bi_1.cell 4).trans rfl
          have i_1_f4 := Bi_1.frozen 4
          have i_1_c5 : v1.cell? ⟨w.heap.size, 5, none⟩ = some (.slice A3 I.sets.length c3) := (Bi_1.cell 5).trans rfl
          have i_1_f5 := Bi_1.frozen 5
          have j_1_z : w.heap.size + 1 < v1.heap.size := Bj_1.lt
          have j_1_c0 : v1.cell? ⟨w.heap.size + 1, 0, none⟩ = some (.int .i64 J.kind) := (Bj_1.cell 0).trans rfl
          have j_1_f0 := Bj_1.frozen 0
          have j_1_c1 : v1.cell? ⟨w.heap.size + 1, 1, none⟩ = some (.int .i64 J.cap) := (Bj_1.cell 1).trans rfl
          have j_1_f1 := Bj_1.frozen 1
          have j_1_c2 : v1.cell? ⟨w.heap.size + 1, 2, none⟩ = some (.slice D1 J.items.length d1) := (Bj_1.cell 2).trans rfl
          have j_1_f2 := Bj_1.frozen 2
          have j_1_c3 : v1.cell? ⟨w.heap.size + 1, 3, none⟩ = some (.slice D2 J.cost.length d2) := (Bj_1.cell 3).trans rfl
          have j_1_f3 := Bj_1.frozen 3
          have j_1_c4 : v1.cell? ⟨w.heap.size + 1, 4, none⟩ = some (.int .i64 J.size) := (Bj_1.cell 4).trans rfl
          have j_1_f4 := Bj_1.frozen 4
          have j_1_c5 : v1.cell? ⟨w.heap.size + 1, 5, none⟩ = some (.slice D3 J.sets.length d3) := (Bj_1.cell 5).trans rfl
          have j_1_f5 := Bj_1.frozen 5
          go_wp2
          go_ret
          exact ⟨by simp [qk, qc, qs], bl1⟩
        · cases y
          · go_enter Tryd.func17, Tryd.ntmps17
            go_wp2_with fail
            (with_reducible refine (H1.out _ (bl_alloc (bl_alloc (Below.refl _ _) _) _)).mono ?_); rintro e v1 ⟨rfl, hb1⟩
            have st1 := bl_step (bl_alloc (bl_alloc (Below.refl _ _) _) _) hb1
            have bl1 := st1
            have Bi_1 : Blk v1 (w.heap.size) 27 #[.int .i64 I.kind, .int .i64 I.cap, .slice A1 I.items.length c1, .slice A2 I.cost.length c2, .int .i64 I.size, .slice A3 I.sets.length c3] := ((Blk.new _ _ _).alloc _).below hb1
            have Bj_1 : Blk v1 (w.heap.size + 1) 27 #[.int .i64 J.kind, .int .i64 J.cap, .slice D1 J.items.length d1, .slice D2 J.cost.length d2, .int .i64 J.size, .slice D3 J.sets.length d3] := (Blk.new' (by simp) _ _).below hb1
            have i_1_z : w.heap.size < v1.heap.size := Bi_1.lt
            have i_1_c0 : v1.cell? ⟨w.heap.size, 0, none⟩ = some (.int .i64 I.kind) := (Bi_1.cell 0).trans rfl
            have i_1_f0 := Bi_1.frozen 0
            have i_1_c1 : v1.cell? ⟨w.heap.size, 1, none⟩ = some (.int .i64 I.cap) := (Bi_1.cell 1).trans rfl
            have i_1_f1 := Bi_1.frozen 1
            have i_1_c2 : v1.cell? ⟨w.heap.size, 2, none⟩ = some (.slice A1 I.items.length c1) := (Bi_1.cell 2).trans rfl
            have i_1_f2 := Bi_1.frozen 2
            have i_1_c3 : v1.cell? ⟨w.heap.size, 3, none⟩ = some (.slice A2 I.cost.length c2) := (Bi_1.cell 3).trans rfl
            have i_1_f3 := Bi_1.frozen 3
            have i_1_c4 : v1.cell? ⟨w.heap.size, 4, none⟩ = some (.int .i64 I.size) := (Bi_1.cell 4).trans rfl
            have i_1_f4 := Bi_1.frozen 4
            have i_1_c5 : v1.cell? ⟨w.heap.size, 5, none⟩ = some (.slice A3 I.sets.length c3) := (Bi_1.cell 5).trans rfl
            have i_1_f5 := Bi_1.frozen 5
            have j_1_z : w.heap.size + 1 < v1.heap.size := Bj_1.lt
            have j_1_c0 : v1.cell? ⟨w.heap.size + 1, 0, none⟩ = some (.int .i64 J.kind) := (Bj_1.cell 0).trans rfl
            have j_1_f0 := Bj_1.frozen 0
            have j_1_c1 : v1.cell? ⟨w.heap.size + 1, 1, none⟩ = some (.int .i64 J.cap) := (Bj_1.cell 1).trans rfl
            have j_1_f1 := Bj_1.frozen 1
            have j_1_c2 : v1.cell? ⟨w.heap.size + 1, 2, none⟩ = some (.slice D1 J.items.length d1) := (Bj_1.cell 2).trans rfl
            have j_1_f2 := Bj_1.frozen 2
            have j_1_c3 : v1.cell? ⟨w.heap.size + 1, 3, none⟩ = some (.slice D2 J.cost.length d2) := (Bj_1.cell 3).trans rfl
            have j_1_f3 := Bj_1.frozen 3
            have j_1_c4 : v1.cell? ⟨w.heap.size + 1, 4, none⟩ = some (.int .i64 J.size) := (Bj_1.cell 4).trans rfl
            have j_1_f4 := Bj_1.frozen 4
            have j_1_c5 : v1.cell? ⟨w.heap.size + 1, 5, none⟩ = some (.slice D3 J.sets.length d3) := (Bj_1.cell 5).trans rfl
            have j_1_f5 := Bj_1.frozen 5
            go_wp2_with fail
            (with_reducible refine (H2.out _ bl1).mono ?_); rintro e v2 ⟨rfl, hb2⟩
            have st2 := bl_step (Below.refl _ _) hb2
            have bl2 := bl_step bl1 st2
            clear i_1_z i_1_c0 i_1_f0 i_1_c1 i_1_f1 i_1_c2 i_1_f2 i_1_c3 i_1_f3 i_1_c4 i_1_f4 i_1_c5 i_1_f5
            have Bi_2 := Bi_1.below st2
            clear j_1_z j_1_c0 j_1_f0 j_1_c1 j_1_f1 j_1_c2 j_1_f2 j_1_c3 j_1_f3 j_1_c4 j_1_f4 j_1_c5 j_1_f5
            have Bj_2 := Bj_1.below st2
            have i_2_z : w.heap.size < v2.heap.size := Bi_2.lt
            have i_2_c0 : v2.cell? ⟨w.heap.size, 0, none⟩ = some (.int .i64 I.kind) := (Bi_2.cell 0).trans rfl
            have i_2_f0 := Bi_2.frozen 0
            have i_2_c1 : v2.cell? ⟨w.heap.size, 1, none⟩ = some (.int .i64 I.cap) := (Bi_2.cell 1).trans rfl
            have i_2_f1 := Bi_2.frozen 1
            have i_2_c2 : v2.cell? ⟨w.heap.size, 2, none⟩ = some (.slice A1 I.items.length c1) := (Bi_2.cell 2).trans rfl
            have i_2_f2 := Bi_2.frozen 2
            have i_2_c3 : v2.cell? ⟨w.heap.size, 3, none⟩ = some (.slice A2 I.cost.length c2) := (Bi_2.cell 3).trans rfl
            have i_2_f3 := Bi_2.frozen 3
            have i_2_c4 : v2.cell? ⟨w.heap.size, 4, none⟩ = some (.int .i64 I.size) := (Bi_2.cell 4).trans rfl
            have i_2_f4 := Bi_2.frozen 4
            have i_2_c5 : v2.cell? ⟨w.heap.size, 5, none⟩ = some (.slice A3 I.sets.length c3) := (Bi_2.cell 5).trans rfl
            have i_2_f5 := Bi_2.frozen 5
            have j_2_z : w.heap.size + 1 < v2.heap.size := Bj_2.lt
            have j_2_c0 : v2.cell? ⟨w.heap.size + 1, 0, none⟩ = some (.int .i64 J.kind) := (Bj_2.cell 0).trans rfl
            have j_2_f0 := Bj_2.frozen 0
            have j_2_c1 : v2.cell? ⟨w.heap.size + 1, 1, none⟩ = some (.int .i64 J.cap) := (Bj_2.cell 1).trans rfl
            have j_2_f1 := Bj_2.frozen 1
            have j_2_c2 : v2.cell? ⟨w.heap.size + 1, 2, none⟩ = some (.slice D1 J.items.length d1) := (Bj_2.cell 2).trans rfl
            have j_2_f2 := Bj_2.frozen 2
            have j_2_c3 : v2.cell? ⟨w.heap.size + 1, 3, none⟩ = some (.slice D2 J.cost.length d2) := (Bj_2.cell 3).trans rfl
            have j_2_f3 := Bj_2.frozen 3
            have j_2_c4 : v2.cell? ⟨w.heap.size + 1, 4, none⟩ = some (.int .i64 J.size) := (Bj_2.cell 4).trans rfl
            have j_2_f4 := Bj_2.frozen 4
            have j_2_c5 : v2.cell? ⟨w.heap.size + 1, 5, none⟩ = some (.slice D3 J.sets.length d3) := (Bj_2.cell 5).trans rfl
            have j_2_f5 := Bj_2.frozen 5
            go_wp2
            go_ret
            exact ⟨by simp [qk, qc, qs], bl2⟩
          · go_enter Tryd.func17, Tryd.ntmps17
            go_wp2_with fail
            (with_reducible refine (H1.out _ (bl_alloc (bl_alloc (Below.refl _ _) _) _)).mono ?_); rintro e v1 ⟨rfl, hb1⟩
            have st1 := bl_step (bl_alloc (bl_alloc (Below.refl _ _) _) _) hb1
            have bl1 := st1
            have Bi_1 : Blk v1 (w.heap.size) 27 #[.int .i64 I.kind, .int .i64 I.cap, .slice A1 I.items.length c1, .slice A2 I.cost.length c2, .int .i64 I.size, .slice A3 I.sets.length c3] := ((Blk.new _ _ _).alloc _).below hb1
            have Bj_1 : Blk v1 (w.heap.size + 1) 27 #[.int .i64 J.kind, .int .i64 J.cap, .slice D1 J.items.length d1, .slice D2 J.cost.length d2, .int .i64 J.size, .slice D3 J.sets.length d3] := (Blk.new' (by simp) _ _).below hb1
            have i_1_z : w.heap.size < v1.heap.size := Bi_1.lt
            have i_1_c0 : v1.cell? ⟨w.heap.size, 0, none⟩ = some (.int .i64 I.kind) := (Bi_1.cell 0).trans rfl
            have i_1_f0 := Bi_1.frozen 0
            have i_1_c1 : v1.cell? ⟨w.heap.size, 1, none⟩ = some (.int .i64 I.cap) := (Bi_1.cell 1).trans rfl
            have i_1_f1 := Bi_1.frozen 1
            have i_1_c2 : v1.cell? ⟨w.heap.size, 2, none⟩ = some (.slice A1 I.items.length c1) := (Bi_1.cell 2).trans rfl
            have i_1_f2 := Bi_1.frozen 2
            have i_1_c3 : v1.cell? ⟨w.heap.size, 3, none⟩ = some (.slice A2 I.cost.length c2) := (Bi_1.cell 3).trans rfl
            have i_1_f3 := Bi_1.frozen 3
            have i_1_c4 : v1.cell? ⟨w.heap.size, 4, none⟩ = some (.int .i64 I.size) := (Bi_1.cell 4).trans rfl
            have i_1_f4 := Bi_1.frozen 4
            have i_1_c5 : v1.cell? ⟨w.heap.size, 5, none⟩ = some (.slice A3 I.sets.length c3) := (Bi_1.cell 5).trans rfl
            have i_1_f5 := Bi_1.frozen 5
            have j_1_z : w.heap.size + 1 < v1.heap.size := Bj_1.lt
            have j_1_c0 : v1.cell? ⟨w.heap.size + 1, 0, none⟩ = some (.int .i64 J.kind) := (Bj_1.cell 0).trans rfl
            have j_1_f0 := Bj_1.frozen 0
            have j_1_c1 : v1.cell? ⟨w.heap.size + 1, 1, none⟩ = some (.int .i64 J.cap) := (Bj_1.cell 1).trans rfl
            have j_1_f1 := Bj_1.frozen 1
            have j_1_c2 : v1.cell? ⟨w.heap.size + 1, 2, none⟩ = some (.slice D1 J.items.length d1) := (Bj_1.cell 2).trans rfl
            have j_1_f2 := Bj_1.frozen 2
            have j_1_c3 : v1.cell? ⟨w.heap.size + 1, 3, none⟩ = some (.slice D2 J.cost.length d2) := (Bj_1.cell 3).trans rfl
            have j_1_f3 := Bj_1.frozen 3
            have j_1_c4 : v1.cell? ⟨w.heap.size + 1, 4, none⟩ = some (.int .i64 J.size) := (Bj_1.cell 4).trans rfl
            have j_1_f4 := Bj_1.frozen 4
            have j_1_c5 : v1.cell? ⟨w.heap.size + 1, 5, none⟩ = some (.slice D3 J.sets.length d3) := (Bj_1.cell 5).trans rfl
            have j_1_f5 := Bj_1.frozen 5
            go_wp2_with fail
            (with_reducible refine (H2.out _ bl1).mono ?_); rintro e v2 ⟨rfl, hb2⟩
            have st2 := bl_step (Below.refl _ _) hb2
            have bl2 := bl_step bl1 st2
            clear i_1_z i_1_c0 i_1_f0 i_1_c1 i_1_f1 i_1_c2 i_1_f2 i_1_c3 i_1_f3 i_1_c4 i_1_f4 i_1_c5 i_1_f5
            have Bi_2 := Bi_1.below st2
            clear j_1_z j_1_c0 j_1_f0 j_1_c1 j_1_f1 j_1_c2 j_1_f2 j_1_c3 j_1_f3 j_1_c4 j_1_f4 j_1_c5 j_1_f5
            have Bj_2 := Bj_1.below st2
            have i_2_z : w.heap.size < v2.heap.size := Bi_2.lt
            have i_2_c0 : v2.cell? ⟨w.heap.size, 0, none⟩ = some (.int .i64 I.kind) := (Bi_2.cell 0).trans rfl
            have i_2_f0 := Bi_2.frozen 0
            have i_2_c1 : v2.cell? ⟨w.heap.size, 1, none⟩ = some (.int .i64 I.cap) := (Bi_2.cell 1).trans rfl
            have i_2_f1 := Bi_2.frozen 1
            have i_2_c2 : v2.cell? ⟨w.heap.size, 2, none⟩ = some (.slice A1 I.items.length c1) := (Bi_2.cell 2).trans rfl
            have i_2_f2 := Bi_2.frozen 2
            have i_2_c3 : v2.cell? ⟨w.heap.size, 3, none⟩ = some (.slice A2 I.cost.length c2) := (Bi_2.cell 3).trans rfl
            have i_2_f3 := Bi_2.frozen 3
            have i_2_c4 : v2.cell? ⟨w.heap.size, 4, none⟩ = some (.int .i64 I.size) := (Bi_2.cell 4).trans rfl
            have i_2_f4 := Bi_2.frozen 4
            have i_2_c5 : v2.cell? ⟨w.heap.size, 5, none⟩ = some (.slice A3 I.sets.length c3) := (Bi_2.cell 5).trans rfl
            have i_2_f5 := Bi_2.frozen 5
            have j_2_z : w.heap.size + 1 < v2.heap.size := Bj_2.lt
            have j_2_c0 : v2.cell? ⟨w.heap.size + 1, 0, none⟩ = some (.int .i64 J.kind) := (Bj_2.cell 0).trans rfl
            have j_2_f0 := Bj_2.frozen 0
            have j_2_c1 : v2.cell? ⟨w.heap.size + 1, 1, none⟩ = some (.int .i64 J.cap) := (Bj_2.cell 1).trans rfl
            have j_2_f1 := Bj_2.frozen 1
            have j_2_c2 : v2.cell? ⟨w.heap.size + 1, 2, none⟩ = some (.slice D1 J.items.length d1) := (Bj_2.cell 2).trans rfl
            have j_2_f2 := Bj_2.frozen 2
            have j_2_c3 : v2.cell? ⟨w.heap.size + 1, 3, none⟩ = some (.slice D2 J.cost.length d2) := (Bj_2.cell 3).trans rfl
            have j_2_f3 := Bj_2.frozen 3
            have j_2_c4 : v2.cell? ⟨w.heap.size + 1, 4, none⟩ = some (.int .i64 J.size) := (Bj_2.cell 4).trans rfl
            have j_2_f4 := Bj_2.frozen 4
            have j_2_c5 : v2.cell? ⟨w.heap.size + 1, 5, none⟩ = some (.slice D3 J.sets.length d3) := (Bj_2.cell 5).trans rfl
            have j_2_f5 := Bj_2.frozen 5
            go_wp2_with fail
            (with_reducible refine (H3.out _ bl2).mono ?_); rintro e v3 ⟨rfl, hb3⟩
            have st3 := bl_step (Below.refl _ _) hb3
            have bl3 := bl_step bl2 st3
            clear i_2_z i_2_c0 i_2_f0 i_2_c1 i_2_f1 i_2_c2 i_2_f2 i_2_c3 i_2_f3 i_2_c4 i_2_f4 i_2_c5 i_2_f5
            have Bi_3 := Bi_2.below st3
            clear j_2_z j_2_c0 j_2_f0 j_2_c1 j_2_f1 j_2_c2 j_2_f2 j_2_c3 j_2_f3 j_2_c4 j_2_f4 j_2_c5 j_2_f5
            have Bj_3 := Bj_2.below st3
            have i_3_z : w.heap.size < v3.heap.size := Bi_3.lt
            have i_3_c0 : v3.cell? ⟨w.heap.size, 0, none⟩ = some (.int .i64 I.kind) := (Bi_3.cell 0).trans rfl
            have i_3_f0 := Bi_3.frozen 0
            have i_3_c1 : v3.cell? ⟨w.heap.size, 1, none⟩ = some (.int .i64 I.cap) := (Bi_3.cell 1).trans rfl
            have i_3_f1 := Bi_3.frozen 1
            have i_3_c2 : v3.cell? ⟨w.heap.size, 2, none⟩ = some (.slice A1 I.items.length c1) := (Bi_3.cell 2).trans rfl
            have i_3_f2 := Bi_3.frozen 2
            have i_3_c3 : v3.cell? ⟨w.heap.size, 3, none⟩ = some (.slice A2 I.cost.length c2) := (Bi_3.cell 3).trans rfl
            have i_3_f3 := Bi_3.frozen 3
            have i_3_c4 : v3.cell? ⟨w.heap.size, 4, none⟩ = some (.int .i64 I.size) := (Bi_3.cell 4).trans rfl
            have i_3_f4 := Bi_3.frozen 4
            have i_3_c5 : v3.cell? ⟨w.heap.size, 5, none⟩ = some (.slice A3 I.sets.length c3) := (Bi_3.cell 5).trans rfl
            have i_3_f5 := Bi_3.frozen 5
            have j_3_z : w.heap.size + 1 < v3.heap.size := Bj_3.lt
            have j_3_c0 : v3.cell? ⟨w.heap.size + 1, 0, none⟩ = some (.int .i64 J.kind) := (Bj_3.cell 0).trans rfl
            have j_3_f0 := Bj_3.frozen 0
            have j_3_c1 : v3.cell? ⟨w.heap.size + 1, 1, none⟩ = some (.int .i64 J.cap) := (Bj_3.cell 1).trans rfl
            have j_3_f1 := Bj_3.frozen 1
            have j_3_c2 : v3.cell? ⟨w.heap.size + 1, 2, none⟩ = some (.slice D1 J.items.length d1) := (Bj_3.cell 2).trans rfl
            have j_3_f2 := Bj_3.frozen 2
            have j_3_c3 : v3.cell? ⟨w.heap.size + 1, 3, none⟩ = some (.slice D2 J.cost.length d2) := (Bj_3.cell 3).trans rfl
            have j_3_f3 := Bj_3.frozen 3
            have j_3_c4 : v3.cell? ⟨w.heap.size + 1, 4, none⟩ = some (.int .i64 J.size) := (Bj_3.cell 4).trans rfl
            have j_3_f4 := Bj_3.frozen 4
            have j_3_c5 : v3.cell? ⟨w.heap.size + 1, 5, none⟩ = some (.slice D3 J.sets.length d3) := (Bj_3.cell 5).trans rfl
            have j_3_f5 := Bj_3.frozen 5
            go_wp2
            go_ret
            exact ⟨by simp [qk, qc, qs], bl3⟩
      · have qs : (I.size == J.size) = false := by simpa using hs
        have ms : (I.size != J.size) = true := by simpa using hs
        clear hs
        go_enter Tryd.func17, Tryd.ntmps17

        go_wp2
        go_ret
        exact ⟨by simp [qk, qc, qs], bl_alloc (bl_alloc (Below.refl _ _) _) _⟩
    · have qc : (I.cap == J.cap) = false := by simpa using hc
      have mc : (I.cap != J.cap) = true := by simpa using hc
      clear hc
      go_enter Tryd.func17, Tryd.ntmps17

      go_wp2
      go_ret
      exact ⟨by simp [qk, qc], bl_alloc (bl_alloc (Below.refl _ _) _) _⟩
  · have qk : (I.kind == J.kind) = false := by simpa using hk
    have mk : (I.kind != J.kind) = true := by simpa using hk
    clear hk
    go_enter Tryd.func17, Tryd.ntmps17

    go_wp2
    go_ret
    exact ⟨by simp [qk], bl_alloc (bl_alloc (Below.refl _ _) _) _⟩
end Go.Proofs.YtklomjpnmmaogaaDoor
