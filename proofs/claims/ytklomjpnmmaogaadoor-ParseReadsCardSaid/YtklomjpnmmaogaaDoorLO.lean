/- The document's token. -/
import Derived.Test.YtklomjpnmmaogaaDoorLN
import Derived.Test.YtklomjpnmmaogaaDoorLD
namespace Go.Proofs.YtklomjpnmmaogaaDoor
open Go Go.RowKit
set_option linter.unusedVariables false
set_option linter.unusedSimpArgs false
set_option maxRecDepth 100000

/-- A numeral read below nought; a sign is passed over. -/
def refG : Nat → List UInt8 → Option Nat
  | u, [] => some u
  | u, c :: r => if c.toNat = 45 then refG u r else if 9223372036854775808 < 10 * u + (c.toNat - 48) then none else refG (10 * u + (c.toNat - 48)) r
theorem pm_le (M : Nat) : ∀ (l : List UInt8) (a v : Nat), Lib.parseUintM M a l = .ok v → a ≤ v
  | [], a, v, h => by
    simp only [Lib.parseUintM] at h
    injection h with h
    omega
  | c :: r, a, v, h => by
    simp only [Lib.parseUintM] at h
    split at h
    · split at h
      · cases h
      · split at h
        · cases h
        · have := pm_le M r _ v h
          omega
    · cases h
theorem pm_ref : ∀ (l : List UInt8) (u : Nat), (∀ d ∈ l, digB d = true) → u ≤ 9223372036854775808 →
    (∀ v, refG u l = some v → Lib.parseUintM 18446744073709551615 u l = .ok v ∧ v ≤ 9223372036854775808) ∧ (refG u l = none → ∀ v, Lib.parseUintM 18446744073709551615 u l = .ok v → 9223372036854775808 < v)
  | [], u, _, hu => by
    refine ⟨fun v h => ?_, fun h => (by cases h)⟩
    simp only [refG] at h
    injection h with h
    subst h
    exact ⟨rfl, hu⟩
  | c :: r, u, hd, hu => by
    have hc : 48 ≤ c.toNat ∧ c.toNat ≤ 57 := by
      have := hd c (by simp)
      simpa [digB] using this
    have hr : ∀ d ∈ r, digB d = true := fun d h => hd d (by simp [h])
    simp only [refG, Lib.parseUintM]
    rw [if_neg (show ¬ c.toNat = 45 by omega), if_pos hc]
    by_cases ho : 9223372036854775808 < 10 * u + (c.toNat - 48)
    · rw [if_pos ho]
      refine ⟨fun v h => (by cases h), fun _ v h => ?_⟩
      split at h
      · cases h
      · split at h
        · cases h
        · have := pm_le _ r _ v h
          omega
    · rw [if_neg ho, if_neg (show ¬ 1844674407370955162 ≤ u by omega), if_neg (by omega)]
      rw [show u * 10 + (c.toNat - 48) = 10 * u + (c.toNat - 48) by omega]
      exact pm_ref r _ hr (by omega)
theorem pow_a : (2 : Nat) ^ 64 - 1 = 18446744073709551615 := by decide
theorem pow_b : (2 : Nat) ^ (64 - 1) = 9223372036854775808 := by decide
section
variable {c : UInt8} {r : List UInt8}
theorem int_neg (hc : c.toNat = 45) (hne : r ≠ []) {v : Int} (h : Lib.parseIntB 64 (c :: r) = .ok v) : ∃ u, Lib.parseUintM 18446744073709551615 0 r = .ok u ∧ u ≤ 9223372036854775808 := by
  simp only [Lib.parseIntB] at h
  rw [if_pos (by right; exact hc)] at h
  unfold Lib.parseUintB at h
  rw [if_neg hne, pow_a] at h
  split at h
  · cases h
  · cases h
  · next u hu =>
    refine ⟨u, hu, ?_⟩
    simp only [pow_b] at h
    rw [if_neg (by intro q; exact q.1 hc)] at h
    by_cases q : 9223372036854775808 < u
    · rw [if_pos ⟨hc, q⟩] at h; cases h
    · omega
theorem int_neg' (hc : c.toNat = 45) (hne : r ≠ []) {u : Nat} (h : Lib.parseUintM 18446744073709551615 0 r = .ok u) (hu : u ≤ 9223372036854775808) : Lib.parseIntB 64 (c :: r) = .ok (-(u : Int)) := by
  simp only [Lib.parseIntB]
  rw [if_pos (by right; exact hc)]
  unfold Lib.parseUintB
  rw [if_neg hne, pow_a, h]
  simp only [pow_b]
  rw [if_neg (by intro q; exact q.1 hc), if_neg (by intro q; omega), if_pos hc]
theorem int_pos (hc : 48 ≤ c.toNat) {v : Int} (h : Lib.parseIntB 64 (c :: r) = .ok v) : ∃ u, Lib.parseUintM 18446744073709551615 0 (c :: r) = .ok u ∧ u < 9223372036854775808 := by
  simp only [Lib.parseIntB] at h
  rw [if_neg (by omega)] at h
  unfold Lib.parseUintB at h
  rw [if_neg (by simp), pow_a] at h
  split at h
  · cases h
  · cases h
  · next u hu =>
    refine ⟨u, hu, ?_⟩
    simp only [pow_b] at h
    by_cases q : 9223372036854775808 ≤ u
    · rw [if_pos ⟨by omega, q⟩] at h; cases h
    · omega
theorem int_pos' (hc : 48 ≤ c.toNat) {u : Nat} (h : Lib.parseUintM 18446744073709551615 0 (c :: r) = .ok u) (hu : u < 9223372036854775808) : Lib.parseIntB 64 (c :: r) = .ok (u : Int) := by
  simp only [Lib.parseIntB]
  rw [if_neg (by omega)]
  unfold Lib.parseUintB
  rw [if_neg (by simp), pow_a, h]
  simp only [pow_b]
  rw [if_neg (by intro q; omega), if_neg (by intro q; omega), if_neg (by omega)]
/-- What the reading of a run's numeral comes to. -/
theorem num_ref (hr : ∀ d ∈ r, digB d = true) (hc : c.toNat = 45 ∧ r ≠ [] ∨ digB c = true) :
    numT (c :: r) = match refG 0 (c :: r) with
      | none => (5, 0, 0)
      | some u => if c.toNat = 45 then (0, 1, -(u : Int)) else if u = 9223372036854775808 then (5, 0, 0) else (0, 1, (u : Int)) := by
  rcases hc with ⟨hc, hne⟩ | hc
  · have hg : refG 0 (c :: r) = refG 0 r := by simp only [refG]; rw [if_pos hc]
    obtain ⟨h1, h2⟩ := pm_ref r 0 hr (by omega)
    rw [hg]
    cases hq : refG 0 r with
    | none =>
      refine numT_bad fun v hv => ?_
      obtain ⟨u, hu, hle⟩ := int_neg hc hne hv
      have := h2 hq u hu
      omega
    | some u =>
      obtain ⟨h3, h4⟩ := h1 u hq
      simp only
      rw [if_pos hc]
      exact numT_ok (int_neg' hc hne h3 h4)
  · have hc' : 48 ≤ c.toNat ∧ c.toNat ≤ 57 := by simpa [digB] using hc
    obtain ⟨h1, h2⟩ := pm_ref (c :: r) 0 (fun d h => by rcases List.mem_cons.1 h with rfl | h; exact hc; exact hr d h) (by omega)
    cases hq : refG 0 (c :: r) with
    | none =>
      refine numT_bad fun v hv => ?_
      obtain ⟨u, hu, hle⟩ := int_pos hc'.1 hv
      have := h2 hq u hu
      omega
    | some u =>
      obtain ⟨h3, h4⟩ := h1 u hq
      simp only
      rw [if_neg (show ¬ c.toNat = 45 by omega)]
      by_cases hu : u = 9223372036854775808
      · rw [if_pos hu]
        refine numT_bad fun v hv => ?_
        obtain ⟨u', hu', hle⟩ := int_pos hc'.1 hv
        rw [h3] at hu'
        injection hu' with hu'
        omega
      · rw [if_neg hu]
        exact numT_ok (int_pos' hc'.1 h3 (by omega))
end
theorem tdiv_lt {u d : Nat} (hd : d ≤ 9) (hu : u ≤ 9223372036854775808) : (-(u : Int) < (-9223372036854775808 + (d : Int)).tdiv 10) ↔ 9223372036854775808 < 10 * u + d := by
  have ht : (-9223372036854775808 + (d : Int)).tdiv 10 = -((9223372036854775808 - (d : Int)) / 10) := by
    rw [show -9223372036854775808 + (d : Int) = -(9223372036854775808 - (d : Int)) by omega, Int.neg_tdiv, Int.tdiv_eq_ediv_of_nonneg (by omega)]
  rw [ht]
  omega
set_option maxHeartbeats 6400000 in
theorem rtok_any (s : ByteArray) (hs : s.size ≤ 281474976710656) (w : World) (hr : RunT s.data.toList) (hm : s.data.toList.head? = some 45 → 2 ≤ s.size) : Calls Tryd.prog 57 #[.string s] w fun e w' => e = .returned (.tuple #[.agg #[.int .i64 (tokenL s.data.toList).2.1, .string (if (tokenL s.data.toList).1 = 0 then s else ⟨#[]⟩), .int .i64 (tokenL s.data.toList).2.2, .int .i64 0, .int .i64 0], .int .i64 (tokenL s.data.toList).1]) ∧ Below w.heap.size w w' := by
  have hlen : s.data.toList.length = s.size := (Lib.size_eq s).symm
  obtain ⟨t, ht⟩ : ∃ t, s.data.toList = t := ⟨_, rfl⟩
  have hget : ∀ (i : Nat) (h : i < s.size), t.drop i = s[i] :: t.drop (i + 1) := fun i h => by rw [← ht]; exact get_drop s i h
  have hpos : 0 < s.size := by
    obtain ⟨c, r, e, _⟩ := hr.out
    rw [← hlen, e]; simp
  have e5 : tokenL t = if t.all letB = true then (if 32 < t.length then (21, 0, 0) else (0, 0, 0)) else if t.any letB = true then (21, 0, 0) else numT t := rfl
  have hcnt : t.countP letB ≤ t.length := List.countP_le_length
  have hall : t.all letB = true ↔ t.countP letB = t.length := by rw [List.countP_eq_length, List.all_eq_true]
  have hany : t.any letB = true ↔ 0 < t.countP letB := by rw [List.countP_pos_iff, List.any_eq_true]
  have hnum : ¬ t.any letB = true → numT t = (match refG 0 t with
      | none => (5, 0, 0)
      | some u => if s[0].toNat = 45 then (0, 1, -(u : Int)) else if u = 9223372036854775808 then (5, 0, 0) else (0, 1, (u : Int))) ∧ ∀ d ∈ t, d.toNat = 45 ∨ digB d = true := fun hna => by
    rw [ht] at hr hm
    obtain ⟨c, r, rfl, h1, h2⟩ := hr.out
    have h0 := hget 0 hpos
    simp only [List.drop_zero, List.cons.injEq] at h0
    have hd : ∀ d : UInt8, d ∈ c :: r → anB d = true → digB d = true := fun d hd ha => by
      have hl : letB d = false := by
        cases h : letB d
        · rfl
        · exact absurd (List.any_eq_true.2 ⟨d, hd, h⟩) hna
      simp only [anB, hl, Bool.false_or] at ha
      exact ha
    have hr' : ∀ d ∈ r, digB d = true := fun d h => hd d (by simp [h]) (h1 d h)
    have hc' : c.toNat = 45 ∧ r ≠ [] ∨ digB c = true := by
      rcases h2 with h2 | h2
      · refine .inl ⟨h2, fun e => ?_⟩
        subst e
        have : 2 ≤ s.size := hm (by show some c = some 45; rw [UInt8.toNat_inj.1 (show c.toNat = (45 : UInt8).toNat from h2)])
        rw [ht] at hlen
        simp only [List.length_cons, List.length_nil] at hlen
        omega
      · exact .inr (hd c (by simp) h2)
    refine ⟨by rw [num_ref hr' hc', h0.1], fun d h => ?_⟩
    rcases List.mem_cons.1 h with rfl | h
    · rcases hc' with h | h
      · exact .inl h.1
      · exact .inr h
    · exact .inr (hr' d h)
  rw [ht] at hlen ⊢
  obtain ⟨er, kd, nm, hX⟩ : ∃ er kd nm, tokenL t = (er, kd, nm) := ⟨_, _, _, rfl⟩
  rw [hX]
  rw [e5] at hX
  simp only
  obtain ⟨str, hstr⟩ : ∃ str, (if er = 0 then s else ⟨#[]⟩) = str := ⟨_, rfl⟩
  rw [hstr]
  have HX := Lib.hid hX
  have HR := Lib.hid hstr
  clear e5 hr hm hX hstr
  have HC : ∀ i, (t.take i).countP letB ≤ i := fun i => Nat.le_trans List.countP_le_length (by rw [List.length_take]; omega)
  have HSt : ∀ (i : Nat) (h : i < s.size), (t.take (i + 1)).countP letB = (t.take i).countP letB + if letB s[i] = true then 1 else 0 := fun i h => by
    have e1 : t[i]? = some s[i] := by
      have := congrArg List.head? (hget i h)
      rw [List.head?_drop] at this
      exact this
    rw [List.take_add_one, e1, List.countP_append]
    congr 1
    show List.countP letB [s[i]] = _
    cases h : letB s[i] <;> simp [List.countP_cons, h]
  go_enter Tryd.func57, Tryd.ntmps57
  go_wp2_with fail
  go_loopw [4, 5, 6] (fun va vb vi wr => ∃ (i b : Nat), vi = .int .i64 i ∧ va = .int .i64 ((t.take i).countP letB : Nat) ∧ vb = .int .i64 b ∧ b ≤ i ∧ i ≤ s.size ∧ wr = w.alloc (.cells #[.int .i64 0, .string ⟨#[]⟩, .int .i64 0, .int .i64 0, .int .i64 0] 77)) (fun _ _ vi _ => s.size - (intOf vi).toNat)
  case atStart => exact ⟨0, 0, rfl, rfl, rfl, by omega, by omega, rfl⟩
  case round =>
    obtain ⟨i, b, rfl, rfl, rfl, hb, hi, rfl⟩ := hrel
    by_cases hlt : i < s.size
    · have i0 : (i : Int) < s.size := by omega
      have i1 : (0 : Int) ≤ i := by omega
      have hc := HC i
      have hst := HSt i hlt
      have wb : IntKind.i64.wrap ((b : Int) + 1) = b + 1 := by rw [IntKind.wrap_i64]; omega
      have wa : IntKind.i64.wrap (((t.take i).countP letB : Int) + 1) = ((t.take i).countP letB : Int) + 1 := by rw [IntKind.wrap_i64]; omega
      have H1 := Lib.hid (fun w => rlet_any s[i] w)
      have H2 := Lib.hid (fun w => rdig_any s[i] w)
      have HH := Lib.hid hst
      clear hst hc
      generalize (t.take i).countP letB = a at HH wa ⊢
      generalize letB s[i] = p at H1 HH
      generalize digB s[i] = q at H2
      go_wp2_with fail
      refine (H1.out _).mono ?_; rintro e v1 ⟨rfl, rfl⟩
      go_wp2_with fail
      refine (H2.out _).mono ?_; rintro e v2 ⟨rfl, rfl⟩
      cases p <;> cases q
      · go_wp2_with fail
        go_roundw
        case rel => exact ⟨i + 1, b, by go_num, by rw [HH.out]; simp, rfl, by omega, by omega, trivial⟩
        case measure => simp only [intOf]; omega
      · go_wp2_with fail
        go_roundw
        case rel => exact ⟨i + 1, b + 1, by go_num, by rw [HH.out]; simp, by go_num, by omega, by omega, trivial⟩
        case measure => simp only [intOf]; omega
      · go_wp2_with fail
        go_roundw
        case rel => exact ⟨i + 1, b, by go_num, by rw [HH.out]; simp, rfl, by omega, by omega, trivial⟩
        case measure => simp only [intOf]; omega
      · go_wp2_with fail
        go_roundw
        case rel => exact ⟨i + 1, b + 1, by go_num, by rw [HH.out]; simp, by go_num, by omega, by omega, trivial⟩
        case measure => simp only [intOf]; omega
    · obtain rfl : i = s.size := by omega
      have htk : t.take s.size = t := List.take_of_length_le (by omega)
      rw [htk]
      have B2 : Blk (w.alloc (.cells #[.int .i64 0, .string ⟨#[]⟩, .int .i64 0, .int .i64 0, .int .i64 0] 77)) w.heap.size 77 #[.int .i64 0, .string ⟨#[]⟩, .int .i64 0, .int .i64 0, .int .i64 0] := Blk.new _ _ _
      have bl2 : Below w.heap.size w (w.alloc (.cells #[.int .i64 0, .string ⟨#[]⟩, .int .i64 0, .int .i64 0, .int .i64 0] 77)) := bl_alloc (Below.refl _ _) _
      generalize w.alloc (.cells #[.int .i64 0, .string ⟨#[]⟩, .int .i64 0, .int .i64 0, .int .i64 0] 77) = v2 at B2 bl2 ⊢
      clear HC HSt htk hlt hi
      have b2_z : w.heap.size < v2.heap.size := B2.lt
      have b2_c0 : v2.cell? ⟨w.heap.size, 0, none⟩ = some (.int .i64 0) := (B2.cell 0).trans rfl
      have b2_f0 := B2.frozen 0
      have b2_c1 : v2.cell? ⟨w.heap.size, 1, none⟩ = some (.string ⟨#[]⟩) := (B2.cell 1).trans rfl
      have b2_f1 := B2.frozen 1
      have b2_c2 : v2.cell? ⟨w.heap.size, 2, none⟩ = some (.int .i64 0) := (B2.cell 2).trans rfl
      have b2_f2 := B2.frozen 2
      have b2_c3 : v2.cell? ⟨w.heap.size, 3, none⟩ = some (.int .i64 0) := (B2.cell 3).trans rfl
      have b2_f3 := B2.frozen 3
      have b2_c4 : v2.cell? ⟨w.heap.size, 4, none⟩ = some (.int .i64 0) := (B2.cell 4).trans rfl
      have b2_f4 := B2.frozen 4
      by_cases a1 : t.all letB = true
      · have z1 := hall.1 a1
        have hX := HX.out
        have hR := HR.out
        rw [if_pos a1, hlen] at hX
        rw [z1, hlen]
        clear hall hany hnum a1
        by_cases hl : 32 < s.size
        · have hl' : (32 : Int) < s.size := by omega
          rw [if_pos hl] at hX
          simp only [Prod.mk.injEq] at hX
          obtain ⟨rfl, rfl, rfl⟩ := hX
          rw [if_neg (by decide)] at hR
          subst hR
          clear HX HR
          go_wp2_with fail
          have BF : Blk (((((v2.setCell ⟨w.heap.size, 0, none⟩ (.int .i64 0)).setCell ⟨w.heap.size, 1, none⟩ (.string ⟨#[]⟩)).setCell ⟨w.heap.size, 2, none⟩ (.int .i64 0)).setCell ⟨w.heap.size, 3, none⟩ (.int .i64 0)).setCell ⟨w.heap.size, 4, none⟩ (.int .i64 0)) w.heap.size 77 #[.int .i64 0, .string ⟨#[]⟩, .int .i64 0, .int .i64 0, .int .i64 0] := B2.put5
          have blf : Below w.heap.size w (((((v2.setCell ⟨w.heap.size, 0, none⟩ (.int .i64 0)).setCell ⟨w.heap.size, 1, none⟩ (.string ⟨#[]⟩)).setCell ⟨w.heap.size, 2, none⟩ (.int .i64 0)).setCell ⟨w.heap.size, 3, none⟩ (.int .i64 0)).setCell ⟨w.heap.size, 4, none⟩ (.int .i64 0)) := bl_set (bl_set (bl_set (bl_set (bl_set (bl2) (p := ⟨w.heap.size, 0, none⟩) (Nat.le_refl _) _) (p := ⟨w.heap.size, 1, none⟩) (Nat.le_refl _) _) (p := ⟨w.heap.size, 2, none⟩) (Nat.le_refl _) _) (p := ⟨w.heap.size, 3, none⟩) (Nat.le_refl _) _) (p := ⟨w.heap.size, 4, none⟩) (Nat.le_refl _) _
          clear b2_z b2_c0 b2_f0 b2_c1 b2_f1 b2_c2 b2_f2 b2_c3 b2_f3 b2_c4 b2_f4
          generalize (((((v2.setCell ⟨w.heap.size, 0, none⟩ (.int .i64 0)).setCell ⟨w.heap.size, 1, none⟩ (.string ⟨#[]⟩)).setCell ⟨w.heap.size, 2, none⟩ (.int .i64 0)).setCell ⟨w.heap.size, 3, none⟩ (.int .i64 0)).setCell ⟨w.heap.size, 4, none⟩ (.int .i64 0)) = vf at BF blf ⊢
          have bf_z : w.heap.size < vf.heap.size := BF.lt
          have bf_c0 : vf.cell? ⟨w.heap.size, 0, none⟩ = some (.int .i64 0) := (BF.cell 0).trans rfl
          have bf_f0 := BF.frozen 0
          have bf_c1 : vf.cell? ⟨w.heap.size, 1, none⟩ = some (.string ⟨#[]⟩) := (BF.cell 1).trans rfl
          have bf_f1 := BF.frozen 1
          have bf_c2 : vf.cell? ⟨w.heap.size, 2, none⟩ = some (.int .i64 0) := (BF.cell 2).trans rfl
          have bf_f2 := BF.frozen 2
          have bf_c3 : vf.cell? ⟨w.heap.size, 3, none⟩ = some (.int .i64 0) := (BF.cell 3).trans rfl
          have bf_f3 := BF.frozen 3
          have bf_c4 : vf.cell? ⟨w.heap.size, 4, none⟩ = some (.int .i64 0) := (BF.cell 4).trans rfl
          have bf_f4 := BF.frozen 4
          refine bodyPost_ret (v := .tuple #[.agg #[.int .i64 0, .string ⟨#[]⟩, .int .i64 0, .int .i64 0, .int .i64 0], .int .i64 21]) (by simp [results, Tryd.results57, go_sem, bf_z, bf_c0, bf_f0, bf_c1, bf_f1, bf_c2, bf_f2, bf_c3, bf_f3, bf_c4, bf_f4]) rfl ⟨rfl, blf⟩
        · have hl' : ¬ (32 : Int) < s.size := by omega
          rw [if_neg hl] at hX
          simp only [Prod.mk.injEq] at hX
          obtain ⟨rfl, rfl, rfl⟩ := hX
          rw [if_pos rfl] at hR
          subst hR
          clear HX HR
          go_wp2_with fail
          have BF : Blk (((((v2.setCell ⟨w.heap.size, 0, none⟩ (.int .i64 0)).setCell ⟨w.heap.size, 1, none⟩ (.string s)).setCell ⟨w.heap.size, 2, none⟩ (.int .i64 0)).setCell ⟨w.heap.size, 3, none⟩ (.int .i64 0)).setCell ⟨w.heap.size, 4, none⟩ (.int .i64 0)) w.heap.size 77 #[.int .i64 0, .string s, .int .i64 0, .int .i64 0, .int .i64 0] := B2.put5
          have blf : Below w.heap.size w (((((v2.setCell ⟨w.heap.size, 0, none⟩ (.int .i64 0)).setCell ⟨w.heap.size, 1, none⟩ (.string s)).setCell ⟨w.heap.size, 2, none⟩ (.int .i64 0)).setCell ⟨w.heap.size, 3, none⟩ (.int .i64 0)).setCell ⟨w.heap.size, 4, none⟩ (.int .i64 0)) := bl_set (bl_set (bl_set (bl_set (bl_set (bl2) (p := ⟨w.heap.size, 0, none⟩) (Nat.le_refl _) _) (p := ⟨w.heap.size, 1, none⟩) (Nat.le_refl _) _) (p := ⟨w.heap.size, 2, none⟩) (Nat.le_refl _) _) (p := ⟨w.heap.size, 3, none⟩) (Nat.le_refl _) _) (p := ⟨w.heap.size, 4, none⟩) (Nat.le_refl _) _
          clear b2_z b2_c0 b2_f0 b2_c1 b2_f1 b2_c2 b2_f2 b2_c3 b2_f3 b2_c4 b2_f4
          generalize (((((v2.setCell ⟨w.heap.size, 0, none⟩ (.int .i64 0)).setCell ⟨w.heap.size, 1, none⟩ (.string s)).setCell ⟨w.heap.size, 2, none⟩ (.int .i64 0)).setCell ⟨w.heap.size, 3, none⟩ (.int .i64 0)).setCell ⟨w.heap.size, 4, none⟩ (.int .i64 0)) = vf at BF blf ⊢
          have bf_z : w.heap.size < vf.heap.size := BF.lt
          have bf_c0 : vf.cell? ⟨w.heap.size, 0, none⟩ = some (.int .i64 0) := (BF.cell 0).trans rfl
          have bf_f0 := BF.frozen 0
          have bf_c1 : vf.cell? ⟨w.heap.size, 1, none⟩ = some (.string s) := (BF.cell 1).trans rfl
          have bf_f1 := BF.frozen 1
          have bf_c2 : vf.cell? ⟨w.heap.size, 2, none⟩ = some (.int .i64 0) := (BF.cell 2).trans rfl
          have bf_f2 := BF.frozen 2
          have bf_c3 : vf.cell? ⟨w.heap.size, 3, none⟩ = some (.int .i64 0) := (BF.cell 3).trans rfl
          have bf_f3 := BF.frozen 3
          have bf_c4 : vf.cell? ⟨w.heap.size, 4, none⟩ = some (.int .i64 0) := (BF.cell 4).trans rfl
          have bf_f4 := BF.frozen 4
          refine bodyPost_ret (v := .tuple #[.agg #[.int .i64 0, .string s, .int .i64 0, .int .i64 0, .int .i64 0], .int .i64 0]) (by simp [results, Tryd.results57, go_sem, bf_z, bf_c0, bf_f0, bf_c1, bf_f1, bf_c2, bf_f2, bf_c3, bf_f3, bf_c4, bf_f4]) rfl ⟨rfl, blf⟩
      · have z1 : ¬ t.countP letB = t.length := fun h => a1 (hall.2 h)
        have z1' : ((t.countP letB : Int) == s.size) = false := by simp; omega
        have hX := HX.out
        have hR := HR.out
        rw [if_neg a1] at hX
        by_cases a2 : t.any letB = true
        · have z2 := hany.1 a2
          have z2' : (0 : Int) < (t.countP letB : Nat) := by omega
          rw [if_pos a2] at hX
          clear hall hany hnum a1 a2 z1 hcnt
          generalize t.countP letB = cn at z1' z2 z2' ⊢
          simp only [Prod.mk.injEq] at hX
          obtain ⟨rfl, rfl, rfl⟩ := hX
          rw [if_neg (by decide)] at hR
          subst hR
          clear HX HR
          go_wp2_with fail
          have BF : Blk (((((v2.setCell ⟨w.heap.size, 0, none⟩ (.int .i64 0)).setCell ⟨w.heap.size, 1, none⟩ (.string ⟨#[]⟩)).setCell ⟨w.heap.size, 2, none⟩ (.int .i64 0)).setCell ⟨w.heap.size, 3, none⟩ (.int .i64 0)).setCell ⟨w.heap.size, 4, none⟩ (.int .i64 0)) w.heap.size 77 #[.int .i64 0, .string ⟨#[]⟩, .int .i64 0, .int .i64 0, .int .i64 0] := B2.put5
          have blf : Below w.heap.size w (((((v2.setCell ⟨w.heap.size, 0, none⟩ (.int .i64 0)).setCell ⟨w.heap.size, 1, none⟩ (.string ⟨#[]⟩)).setCell ⟨w.heap.size, 2, none⟩ (.int .i64 0)).setCell ⟨w.heap.size, 3, none⟩ (.int .i64 0)).setCell ⟨w.heap.size, 4, none⟩ (.int .i64 0)) := bl_set (bl_set (bl_set (bl_set (bl_set (bl2) (p := ⟨w.heap.size, 0, none⟩) (Nat.le_refl _) _) (p := ⟨w.heap.size, 1, none⟩) (Nat.le_refl _) _) (p := ⟨w.heap.size, 2, none⟩) (Nat.le_refl _) _) (p := ⟨w.heap.size, 3, none⟩) (Nat.le_refl _) _) (p := ⟨w.heap.size, 4, none⟩) (Nat.le_refl _) _
          clear b2_z b2_c0 b2_f0 b2_c1 b2_f1 b2_c2 b2_f2 b2_c3 b2_f3 b2_c4 b2_f4
          generalize (((((v2.setCell ⟨w.heap.size, 0, none⟩ (.int .i64 0)).setCell ⟨w.heap.size, 1, none⟩ (.string ⟨#[]⟩)).setCell ⟨w.heap.size, 2, none⟩ (.int .i64 0)).setCell ⟨w.heap.size, 3, none⟩ (.int .i64 0)).setCell ⟨w.heap.size, 4, none⟩ (.int .i64 0)) = vf at BF blf ⊢
          have bf_z : w.heap.size < vf.heap.size := BF.lt
          have bf_c0 : vf.cell? ⟨w.heap.size, 0, none⟩ = some (.int .i64 0) := (BF.cell 0).trans rfl
          have bf_f0 := BF.frozen 0
          have bf_c1 : vf.cell? ⟨w.heap.size, 1, none⟩ = some (.string ⟨#[]⟩) := (BF.cell 1).trans rfl
          have bf_f1 := BF.frozen 1
          have bf_c2 : vf.cell? ⟨w.heap.size, 2, none⟩ = some (.int .i64 0) := (BF.cell 2).trans rfl
          have bf_f2 := BF.frozen 2
          have bf_c3 : vf.cell? ⟨w.heap.size, 3, none⟩ = some (.int .i64 0) := (BF.cell 3).trans rfl
          have bf_f3 := BF.frozen 3
          have bf_c4 : vf.cell? ⟨w.heap.size, 4, none⟩ = some (.int .i64 0) := (BF.cell 4).trans rfl
          have bf_f4 := BF.frozen 4
          refine bodyPost_ret (v := .tuple #[.agg #[.int .i64 0, .string ⟨#[]⟩, .int .i64 0, .int .i64 0, .int .i64 0], .int .i64 21]) (by simp [results, Tryd.results57, go_sem, bf_z, bf_c0, bf_f0, bf_c1, bf_f1, bf_c2, bf_f2, bf_c3, bf_f3, bf_c4, bf_f4]) rfl ⟨rfl, blf⟩
        · have z2 : ¬ 0 < t.countP letB := fun h => a2 (hany.2 h)
          have z3 : t.countP letB = 0 := by omega
          have z2' : ¬ (0 : Int) < (t.countP letB : Nat) := by omega
          obtain ⟨hn, hd⟩ := hnum a2
          rw [if_neg a2, hn] at hX
          have HG : ∃ G, refG 0 t = G := ⟨_, rfl⟩
          obtain ⟨G, hG⟩ := HG
          rw [hG] at hX
          replace HX := Lib.hid hX
          have z3' := z3
          clear hall hany hnum a1 a2 z1 hn z3 z2 hX hR
          have HD := Lib.hid hd
          have HGet := Lib.hid hget
          have HGG := Lib.hid hG
          clear hd hget hG hcnt
          have zz : ((0 : Int) == (s.size : Int)) = false := by simp; omega
          generalize t.countP letB = cn at z3' ⊢
          subst z3'
          clear z1' z2'
          go_wp2_with fail
          go_loopw [9, 10] (fun vn vi wr => ∃ (i u : Nat), vi = .int .i64 i ∧ vn = .int .i64 (-(u : Int)) ∧ u ≤ 9223372036854775808 ∧ i ≤ s.size ∧ Hid (refG u (t.drop i) = G) ∧ wr = v2) (fun _ vi _ => s.size - (intOf vi).toNat)
          case atStart => exact ⟨0, 0, rfl, rfl, by omega, by omega, HGG, rfl⟩
          case round =>
            clear HGG
            obtain ⟨i, u, rfl, rfl, hu, hi, HI, hv⟩ := hrel
            obtain rfl := hv.symm
            clear hv
            by_cases hlt : i < s.size
            · have i0 : (i : Int) < s.size := by omega
              have i1 : (0 : Int) ≤ i := by omega
              have hI := HI.out
              rw [HGet.out i hlt] at hI
              simp only [refG] at hI
              have hdg := HD.out s[i] (by have := HGet.out i hlt; exact List.mem_of_mem_drop (this ▸ List.mem_cons_self))
              by_cases h45 : s[i].toNat = 45
              · rw [if_pos h45] at hI
                replace hI := Lib.hid hI
                have h45' : ((s[i].toNat : Int) == 45) = true := by simp; omega
                clear hdg h45
                go_wp2_with fail
                go_roundw
                case rel => exact ⟨i + 1, u, by go_num, rfl, hu, by omega, hI, trivial⟩
                case measure => simp only [intOf]; omega
              · rw [if_neg h45] at hI
                have hdd : 48 ≤ s[i].toNat ∧ s[i].toNat ≤ 57 := by
                  rcases hdg with h | h
                  · exact absurd h h45
                  · simpa [digB] using h
                have h45' : ((s[i].toNat : Int) == 45) = false := by simp; omega
                obtain ⟨dd, hdd2⟩ : ∃ dd : Nat, s[i].toNat = 48 + dd := ⟨s[i].toNat - 48, by omega⟩
                have hd9 : dd ≤ 9 := by omega
                have q1 : IntKind.u8.wrap ((s[i].toNat : Int) - 48) = dd := by rw [IntKind.wrap_u8]; omega
                have q2 : IntKind.i64.wrap (-9223372036854775808 + (dd : Int)) = -9223372036854775808 + (dd : Int) := by rw [IntKind.wrap_i64]; omega
                have hqq := tdiv_lt (u := u) hd9 hu
                have hqin : -9223372036854775808 ≤ (-9223372036854775808 + (dd : Int)).tdiv 10 ∧ (-9223372036854775808 + (dd : Int)).tdiv 10 ≤ 0 := by
                  rw [show -9223372036854775808 + (dd : Int) = -(9223372036854775808 - (dd : Int)) by omega, Int.neg_tdiv, Int.tdiv_eq_ediv_of_nonneg (by omega)]
                  omega
                have q3 : IntKind.i64.wrap ((-9223372036854775808 + (dd : Int)).tdiv 10) = (-9223372036854775808 + (dd : Int)).tdiv 10 := by rw [IntKind.wrap_i64]; omega
                rw [show s[i].toNat - 48 = dd by omega] at hI
                clear hdg h45 hdd hqin hdd2
                by_cases ho : 9223372036854775808 < 10 * u + dd
                · rw [if_pos ho] at hI
                  have ho' := hqq.2 ho
                  subst hI
                  have hX := HX.out
                  have hR := HR.out
                  simp only [Prod.mk.injEq] at hX
                  obtain ⟨rfl, rfl, rfl⟩ := hX
                  rw [if_neg (by decide)] at hR
                  subst hR
                  clear hqq ho HI HX HR
                  go_wp2_with fail
                  have BF : Blk (((((v2.setCell ⟨w.heap.size, 0, none⟩ (.int .i64 0)).setCell ⟨w.heap.size, 1, none⟩ (.string ⟨#[]⟩)).setCell ⟨w.heap.size, 2, none⟩ (.int .i64 0)).setCell ⟨w.heap.size, 3, none⟩ (.int .i64 0)).setCell ⟨w.heap.size, 4, none⟩ (.int .i64 0)) w.heap.size 77 #[.int .i64 0, .string ⟨#[]⟩, .int .i64 0, .int .i64 0, .int .i64 0] := B2.put5
                  have blf : Below w.heap.size w (((((v2.setCell ⟨w.heap.size, 0, none⟩ (.int .i64 0)).setCell ⟨w.heap.size, 1, none⟩ (.string ⟨#[]⟩)).setCell ⟨w.heap.size, 2, none⟩ (.int .i64 0)).setCell ⟨w.heap.size, 3, none⟩ (.int .i64 0)).setCell ⟨w.heap.size, 4, none⟩ (.int .i64 0)) := bl_set (bl_set (bl_set (bl_set (bl_set (bl2) (p := ⟨w.heap.size, 0, none⟩) (Nat.le_refl _) _) (p := ⟨w.heap.size, 1, none⟩) (Nat.le_refl _) _) (p := ⟨w.heap.size, 2, none⟩) (Nat.le_refl _) _) (p := ⟨w.heap.size, 3, none⟩) (Nat.le_refl _) _) (p := ⟨w.heap.size, 4, none⟩) (Nat.le_refl _) _
                  clear b2_z b2_c0 b2_f0 b2_c1 b2_f1 b2_c2 b2_f2 b2_c3 b2_f3 b2_c4 b2_f4
                  generalize (((((v2.setCell ⟨w.heap.size, 0, none⟩ (.int .i64 0)).setCell ⟨w.heap.size, 1, none⟩ (.string ⟨#[]⟩)).setCell ⟨w.heap.size, 2, none⟩ (.int .i64 0)).setCell ⟨w.heap.size, 3, none⟩ (.int .i64 0)).setCell ⟨w.heap.size, 4, none⟩ (.int .i64 0)) = vf at BF blf ⊢
                  have bf_z : w.heap.size < vf.heap.size := BF.lt
                  have bf_c0 : vf.cell? ⟨w.heap.size, 0, none⟩ = some (.int .i64 0) := (BF.cell 0).trans rfl
                  have bf_f0 := BF.frozen 0
                  have bf_c1 : vf.cell? ⟨w.heap.size, 1, none⟩ = some (.string ⟨#[]⟩) := (BF.cell 1).trans rfl
                  have bf_f1 := BF.frozen 1
                  have bf_c2 : vf.cell? ⟨w.heap.size, 2, none⟩ = some (.int .i64 0) := (BF.cell 2).trans rfl
                  have bf_f2 := BF.frozen 2
                  have bf_c3 : vf.cell? ⟨w.heap.size, 3, none⟩ = some (.int .i64 0) := (BF.cell 3).trans rfl
                  have bf_f3 := BF.frozen 3
                  have bf_c4 : vf.cell? ⟨w.heap.size, 4, none⟩ = some (.int .i64 0) := (BF.cell 4).trans rfl
                  have bf_f4 := BF.frozen 4
                  refine bodyPost_ret (v := .tuple #[.agg #[.int .i64 0, .string ⟨#[]⟩, .int .i64 0, .int .i64 0, .int .i64 0], .int .i64 5]) (by simp [results, Tryd.results57, go_sem, bf_z, bf_c0, bf_f0, bf_c1, bf_f1, bf_c2, bf_f2, bf_c3, bf_f3, bf_c4, bf_f4]) rfl ⟨rfl, blf⟩
                · rw [if_neg ho] at hI
                  have ho' : (-9223372036854775808 + (dd : Int)).tdiv 10 ≤ -(u : Int) := by have : ¬ _ := fun h => ho (hqq.1 h); omega
                  have q4 : IntKind.i64.wrap (10 * -(u : Int)) = 10 * -(u : Int) := by rw [IntKind.wrap_i64]; omega
                  have q5 : IntKind.i64.wrap (10 * -(u : Int) - dd) = 10 * -(u : Int) - dd := by rw [IntKind.wrap_i64]; omega
                  replace hI := Lib.hid hI
                  clear hqq HI
                  go_wp2_with fail
                  go_roundw
                  case rel => exact ⟨i + 1, 10 * u + dd, by go_num, by congr 1; omega, by omega, by omega, hI, trivial⟩
                  case measure => simp only [intOf]; omega
            · obtain rfl : i = s.size := by omega
              have hI := HI.out
              rw [List.drop_eq_nil_of_le (by omega)] at hI
              simp only [refG] at hI
              subst hI
              have p0 : (0 : Int) < s.size := by omega
              have hX := HX.out
              have hR := HR.out
              simp only at hX
              by_cases h45 : s[0].toNat = 45
              · have h45' : ((s[0].toNat : Int) == 45) = true := by simp; omega
                rw [if_pos h45] at hX
                simp only [Prod.mk.injEq] at hX
                obtain ⟨rfl, rfl, rfl⟩ := hX
                rw [if_pos rfl] at hR
                subst hR
                clear HI HX HR
                go_wp2_with fail
                have BF : Blk (((((v2.setCell ⟨w.heap.size, 0, none⟩ (.int .i64 1)).setCell ⟨w.heap.size, 1, none⟩ (.string s)).setCell ⟨w.heap.size, 2, none⟩ (.int .i64 (-(u : Int)))).setCell ⟨w.heap.size, 3, none⟩ (.int .i64 0)).setCell ⟨w.heap.size, 4, none⟩ (.int .i64 0)) w.heap.size 77 #[.int .i64 1, .string s, .int .i64 (-(u : Int)), .int .i64 0, .int .i64 0] := B2.put5
                have blf : Below w.heap.size w (((((v2.setCell ⟨w.heap.size, 0, none⟩ (.int .i64 1)).setCell ⟨w.heap.size, 1, none⟩ (.string s)).setCell ⟨w.heap.size, 2, none⟩ (.int .i64 (-(u : Int)))).setCell ⟨w.heap.size, 3, none⟩ (.int .i64 0)).setCell ⟨w.heap.size, 4, none⟩ (.int .i64 0)) := bl_set (bl_set (bl_set (bl_set (bl_set (bl2) (p := ⟨w.heap.size, 0, none⟩) (Nat.le_refl _) _) (p := ⟨w.heap.size, 1, none⟩) (Nat.le_refl _) _) (p := ⟨w.heap.size, 2, none⟩) (Nat.le_refl _) _) (p := ⟨w.heap.size, 3, none⟩) (Nat.le_refl _) _) (p := ⟨w.heap.size, 4, none⟩) (Nat.le_refl _) _
                clear b2_z b2_c0 b2_f0 b2_c1 b2_f1 b2_c2 b2_f2 b2_c3 b2_f3 b2_c4 b2_f4
                generalize (((((v2.setCell ⟨w.heap.size, 0, none⟩ (.int .i64 1)).setCell ⟨w.heap.size, 1, none⟩ (.string s)).setCell ⟨w.heap.size, 2, none⟩ (.int .i64 (-(u : Int)))).setCell ⟨w.heap.size, 3, none⟩ (.int .i64 0)).setCell ⟨w.heap.size, 4, none⟩ (.int .i64 0)) = vf at BF blf ⊢
                have bf_z : w.heap.size < vf.heap.size := BF.lt
                have bf_c0 : vf.cell? ⟨w.heap.size, 0, none⟩ = some (.int .i64 1) := (BF.cell 0).trans rfl
                have bf_f0 := BF.frozen 0
                have bf_c1 : vf.cell? ⟨w.heap.size, 1, none⟩ = some (.string s) := (BF.cell 1).trans rfl
                have bf_f1 := BF.frozen 1
                have bf_c2 : vf.cell? ⟨w.heap.size, 2, none⟩ = some (.int .i64 (-(u : Int))) := (BF.cell 2).trans rfl
                have bf_f2 := BF.frozen 2
                have bf_c3 : vf.cell? ⟨w.heap.size, 3, none⟩ = some (.int .i64 0) := (BF.cell 3).trans rfl
                have bf_f3 := BF.frozen 3
                have bf_c4 : vf.cell? ⟨w.heap.size, 4, none⟩ = some (.int .i64 0) := (BF.cell 4).trans rfl
                have bf_f4 := BF.frozen 4
                refine bodyPost_ret (v := .tuple #[.agg #[.int .i64 1, .string s, .int .i64 (-(u : Int)), .int .i64 0, .int .i64 0], .int .i64 0]) (by simp [results, Tryd.results57, go_sem, bf_z, bf_c0, bf_f0, bf_c1, bf_f1, bf_c2, bf_f2, bf_c3, bf_f3, bf_c4, bf_f4]) rfl ⟨rfl, blf⟩
              · have h45' : ((s[0].toNat : Int) == 45) = false := by simp; omega
                rw [if_neg h45] at hX
                by_cases h63 : u = 9223372036854775808
                · subst h63
                  rw [if_pos rfl] at hX
                  simp only [Prod.mk.injEq] at hX
                  obtain ⟨rfl, rfl, rfl⟩ := hX
                  rw [if_neg (by decide)] at hR
                  subst hR
                  clear HI HX HR
                  go_wp2_with fail
                  have BF : Blk (((((v2.setCell ⟨w.heap.size, 0, none⟩ (.int .i64 0)).setCell ⟨w.heap.size, 1, none⟩ (.string ⟨#[]⟩)).setCell ⟨w.heap.size, 2, none⟩ (.int .i64 0)).setCell ⟨w.heap.size, 3, none⟩ (.int .i64 0)).setCell ⟨w.heap.size, 4, none⟩ (.int .i64 0)) w.heap.size 77 #[.int .i64 0, .string ⟨#[]⟩, .int .i64 0, .int .i64 0, .int .i64 0] := B2.put5
                  have blf : Below w.heap.size w (((((v2.setCell ⟨w.heap.size, 0, none⟩ (.int .i64 0)).setCell ⟨w.heap.size, 1, none⟩ (.string ⟨#[]⟩)).setCell ⟨w.heap.size, 2, none⟩ (.int .i64 0)).setCell ⟨w.heap.size, 3, none⟩ (.int .i64 0)).setCell ⟨w.heap.size, 4, none⟩ (.int .i64 0)) := bl_set (bl_set (bl_set (bl_set (bl_set (bl2) (p := ⟨w.heap.size, 0, none⟩) (Nat.le_refl _) _) (p := ⟨w.heap.size, 1, none⟩) (Nat.le_refl _) _) (p := ⟨w.heap.size, 2, none⟩) (Nat.le_refl _) _) (p := ⟨w.heap.size, 3, none⟩) (Nat.le_refl _) _) (p := ⟨w.heap.size, 4, none⟩) (Nat.le_refl _) _
                  clear b2_z b2_c0 b2_f0 b2_c1 b2_f1 b2_c2 b2_f2 b2_c3 b2_f3 b2_c4 b2_f4
                  generalize (((((v2.setCell ⟨w.heap.size, 0, none⟩ (.int .i64 0)).setCell ⟨w.heap.size, 1, none⟩ (.string ⟨#[]⟩)).setCell ⟨w.heap.size, 2, none⟩ (.int .i64 0)).setCell ⟨w.heap.size, 3, none⟩ (.int .i64 0)).setCell ⟨w.heap.size, 4, none⟩ (.int .i64 0)) = vf at BF blf ⊢
                  have bf_z : w.heap.size < vf.heap.size := BF.lt
                  have bf_c0 : vf.cell? ⟨w.heap.size, 0, none⟩ = some (.int .i64 0) := (BF.cell 0).trans rfl
                  have bf_f0 := BF.frozen 0
                  have bf_c1 : vf.cell? ⟨w.heap.size, 1, none⟩ = some (.string ⟨#[]⟩) := (BF.cell 1).trans rfl
                  have bf_f1 := BF.frozen 1
                  have bf_c2 : vf.cell? ⟨w.heap.size, 2, none⟩ = some (.int .i64 0) := (BF.cell 2).trans rfl
                  have bf_f2 := BF.frozen 2
                  have bf_c3 : vf.cell? ⟨w.heap.size, 3, none⟩ = some (.int .i64 0) := (BF.cell 3).trans rfl
                  have bf_f3 := BF.frozen 3
                  have bf_c4 : vf.cell? ⟨w.heap.size, 4, none⟩ = some (.int .i64 0) := (BF.cell 4).trans rfl
                  have bf_f4 := BF.frozen 4
                  refine bodyPost_ret (v := .tuple #[.agg #[.int .i64 0, .string ⟨#[]⟩, .int .i64 0, .int .i64 0, .int .i64 0], .int .i64 5]) (by simp [results, Tryd.results57, go_sem, bf_z, bf_c0, bf_f0, bf_c1, bf_f1, bf_c2, bf_f2, bf_c3, bf_f3, bf_c4, bf_f4]) rfl ⟨rfl, blf⟩
                · have h63' : ((-(u : Int)) == -9223372036854775808) = false := by simp; omega
                  have q6 : IntKind.i64.wrap (- -(u : Int)) = u := by rw [IntKind.wrap_i64]; omega
                  rw [if_neg h63] at hX
                  simp only [Prod.mk.injEq] at hX
                  obtain ⟨rfl, rfl, rfl⟩ := hX
                  rw [if_pos rfl] at hR
                  subst hR
                  clear HI HX HR
                  go_wp2_with fail
                  have BF : Blk (((((v2.setCell ⟨w.heap.size, 0, none⟩ (.int .i64 1)).setCell ⟨w.heap.size, 1, none⟩ (.string s)).setCell ⟨w.heap.size, 2, none⟩ (.int .i64 (u : Int))).setCell ⟨w.heap.size, 3, none⟩ (.int .i64 0)).setCell ⟨w.heap.size, 4, none⟩ (.int .i64 0)) w.heap.size 77 #[.int .i64 1, .string s, .int .i64 (u : Int), .int .i64 0, .int .i64 0] := B2.put5
                  have blf : Below w.heap.size w (((((v2.setCell ⟨w.heap.size, 0, none⟩ (.int .i64 1)).setCell ⟨w.heap.size, 1, none⟩ (.string s)).setCell ⟨w.heap.size, 2, none⟩ (.int .i64 (u : Int))).setCell ⟨w.heap.size, 3, none⟩ (.int .i64 0)).setCell ⟨w.heap.size, 4, none⟩ (.int .i64 0)) := bl_set (bl_set (bl_set (bl_set (bl_set (bl2) (p := ⟨w.heap.size, 0, none⟩) (Nat.le_refl _) _) (p := ⟨w.heap.size, 1, none⟩) (Nat.le_refl _) _) (p := ⟨w.heap.size, 2, none⟩) (Nat.le_refl _) _) (p := ⟨w.heap.size, 3, none⟩) (Nat.le_refl _) _) (p := ⟨w.heap.size, 4, none⟩) (Nat.le_refl _) _
                  clear b2_z b2_c0 b2_f0 b2_c1 b2_f1 b2_c2 b2_f2 b2_c3 b2_f3 b2_c4 b2_f4
                  generalize (((((v2.setCell ⟨w.heap.size, 0, none⟩ (.int .i64 1)).setCell ⟨w.heap.size, 1, none⟩ (.string s)).setCell ⟨w.heap.size, 2, none⟩ (.int .i64 (u : Int))).setCell ⟨w.heap.size, 3, none⟩ (.int .i64 0)).setCell ⟨w.heap.size, 4, none⟩ (.int .i64 0)) = vf at BF blf ⊢
                  have bf_z : w.heap.size < vf.heap.size := BF.lt
                  have bf_c0 : vf.cell? ⟨w.heap.size, 0, none⟩ = some (.int .i64 1) := (BF.cell 0).trans rfl
                  have bf_f0 := BF.frozen 0
                  have bf_c1 : vf.cell? ⟨w.heap.size, 1, none⟩ = some (.string s) := (BF.cell 1).trans rfl
                  have bf_f1 := BF.frozen 1
                  have bf_c2 : vf.cell? ⟨w.heap.size, 2, none⟩ = some (.int .i64 (u : Int)) := (BF.cell 2).trans rfl
                  have bf_f2 := BF.frozen 2
                  have bf_c3 : vf.cell? ⟨w.heap.size, 3, none⟩ = some (.int .i64 0) := (BF.cell 3).trans rfl
                  have bf_f3 := BF.frozen 3
                  have bf_c4 : vf.cell? ⟨w.heap.size, 4, none⟩ = some (.int .i64 0) := (BF.cell 4).trans rfl
                  have bf_f4 := BF.frozen 4
                  refine bodyPost_ret (v := .tuple #[.agg #[.int .i64 1, .string s, .int .i64 (u : Int), .int .i64 0, .int .i64 0], .int .i64 0]) (by simp [results, Tryd.results57, go_sem, bf_z, bf_c0, bf_f0, bf_c1, bf_f1, bf_c2, bf_f2, bf_c3, bf_f3, bf_c4, bf_f4]) rfl ⟨rfl, blf⟩
end Go.Proofs.YtklomjpnmmaogaaDoor
