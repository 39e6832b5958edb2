/- What tame hands back may be an instance; with one number beyond its limit it mayn't. Stores into what a call owns. -/
import Derived.Test.YteddbdmddgmicaaDoorIT
import Derived.Test.YteddbdmddgmicaaDoorIG
namespace Go.Proofs.YteddbdmddgmicaaDoor
open Go.RowKit
set_option linter.unusedVariables false
set_option linter.unusedSimpArgs false
set_option maxRecDepth 100000

theorem from_ok {n low : Int} (h1 : low ≤ n) (h2 : n ≤ 2147483648) : fromB n low = true := by simp [fromB]; omega
theorem chk_six {T : IData} (h1 : kindB T.kind = true) (h2 : lean1 T = true) (h3 : few1 T = true) (h4 : shapedB T = true) (h5 : smallB T = true) (h6 : bareB T = true) : checkR T = 0 := by
  unfold checkR
  rw [h1, h2, h3, h4, h5, h6]
  rfl
theorem chk_few {T : IData} (h1 : kindB T.kind = true) (h2 : lean1 T = true) (h3 : few1 T = false) : checkR T = 22 ∧ nR T = 0 := by
  have e : checkR T = 22 := by
    unfold checkR
    rw [h1, h2, h3]
    rfl
  exact ⟨e, by unfold nR; rw [if_neg (by rw [e]; decide)]⟩
theorem chk_small {T : IData} (h1 : kindB T.kind = true) (h2 : lean1 T = true) (h3 : few1 T = true) (h4 : shapedB T = true) (h5 : smallB T = false) : checkR T = 22 ∧ nR T = 0 := by
  have e : checkR T = 22 := by
    unfold checkR
    rw [h1, h2, h3, h4, h5]
    rfl
  exact ⟨e, by unfold nR; rw [if_neg (by rw [e]; decide)]⟩
theorem tame_four {T : IData} {most : Nat} (h : TameD T most) (hm : most ≤ 40) : kindB T.kind = true ∧ lean1 T = true ∧ few1 T = true ∧ shapedB T = true := by
  rw [lean1_iff, few1_iff]
  simp only [decide_eq_true_eq]
  rcases h with ⟨h1, h2, h3, h4, h5, h6, h7⟩ | ⟨h1, h2, h3, h4, h5, h6, h7⟩ | ⟨h1, h2, h3, h4, h5, h6, h7, h8, h9⟩
  · refine ⟨kind_ok (by omega), ⟨by omega, .inr (by rw [h5]; rfl), .inr ⟨h6, by rw [h7]; rfl⟩⟩, ⟨by omega, by omega, by rw [h7]; simp, by omega, by omega⟩, ?_⟩
    simp [shapedB, h5, h7]
  · refine ⟨kind_ok (by omega), ⟨.inr ⟨h3, by rw [h4]; rfl⟩, .inr (by rw [h5]; rfl), .inl h1⟩, ⟨by omega, by rw [h4]; simp, by omega, by omega, by omega⟩, ?_⟩
    simp only [shapedB, h5, List.all_nil, Bool.true_and, List.all_eq_true]
    exact fun p hp => (h7 p hp).2.1
  · refine ⟨kind_ok (by omega), ⟨.inr ⟨h2, by rw [h3]; rfl⟩, .inl h1, .inr ⟨h4, by rw [h5]; rfl⟩⟩, ⟨by omega, by rw [h3]; simp, by rw [h5]; simp, by omega, by omega⟩, ?_⟩
    simp only [shapedB, h5, List.all_nil, Bool.and_true, List.all_eq_true, beq_iff_eq]
    exact fun r hr => (h8 r hr).1
theorem check_tame {T : IData} {most : Nat} (h : TameD T most) (hm : most ≤ 40) : checkR T = 0 := by
  obtain ⟨f1, f2, f3, f4⟩ := tame_four h hm
  refine chk_six f1 f2 f3 f4 ?_ ?_
  · rcases h with ⟨h1, h2, h3, h4, h5, h6, h7⟩ | ⟨h1, h2, h3, h4, h5, h6, h7⟩ | ⟨h1, h2, h3, h4, h5, h6, h7, h8, h9⟩
    · simp only [smallB, h5, h7, List.all_nil, Bool.and_true, Bool.and_eq_true, List.all_eq_true]
      exact ⟨from_ok h2.1 h2.2, fun p hp => ⟨from_ok (h4 p hp).1.1 (h4 p hp).1.2, from_ok (h4 p hp).2.1 (h4 p hp).2.2⟩⟩
    · simp only [smallB, h3, h4, h5, List.all_nil, Bool.true_and, Bool.and_eq_true, List.all_eq_true]
      exact ⟨from_ok (by omega) (by omega), fun p hp => from_ok (h7 p hp).1.1 (h7 p hp).1.2⟩
    · simp only [smallB, h2, h3, h5, List.all_nil, Bool.true_and, Bool.and_true, Bool.and_eq_true, List.all_eq_true]
      exact ⟨from_ok (by omega) (by omega), fun r hr x hx => from_ok ((h8 r hr).2 x hx).1 ((h8 r hr).2 x hx).2⟩
  · rcases h with ⟨h1, _⟩ | ⟨h1, _⟩ | ⟨h1, h2, h3, h4, h5, h6, h7, h8, h9⟩
    · simp [bareB, h1]
    · simp [bareB, h1]
    · rcases h1 with h1 | h1
      · simp [bareB, h1]
      · simp [bareB, h1, h9 h1]
theorem cut_tame {T : IData} (h : TameD T 9) : cutF T = T := by
  have hi : T.items.length ≤ 40 ∧ T.cost.length ≤ 70 ∧ T.sets.length ≤ 40 ∧ (∀ r ∈ T.cost, r.length ≤ 70) ∧ ∀ p ∈ T.sets, p.2.length ≤ 40 := by
    rcases h with ⟨h1, h2, h3, h4, h5, h6, h7⟩ | ⟨h1, h2, h3, h4, h5, h6, h7⟩ | ⟨h1, h2, h3, h4, h5, h6, h7, h8, h9⟩
    · rw [h5, h7]; exact ⟨by omega, by simp, by simp, by simp, by simp⟩
    · rw [h4, h5]; exact ⟨by simp, by simp, by omega, by simp, fun p hp => by have := (h7 p hp).2.2; omega⟩
    · rw [h3, h5]; exact ⟨by simp, by omega, by simp, fun r hr => by have := (h8 r hr).1; omega, by simp⟩
  obtain ⟨i1, i2, i3, i4, i5⟩ := hi
  have e2 : T.cost.map (fun r => r.take 70) = T.cost := by
    exact (List.map_congr_left (f := fun r => r.take 70) (g := id) (fun r hr => List.take_of_length_le (i4 r hr))).trans (List.map_id _)
  have e3 : T.sets.map (fun p => (p.1, p.2.take 40)) = T.sets := by
    exact (List.map_congr_left (f := fun p : Int × List Int => (p.1, p.2.take 40)) (g := id) (fun p hp => by show (p.1, p.2.take 40) = p; rw [List.take_of_length_le (i5 p hp)])).trans (List.map_id _)
  unfold cutF
  rw [List.take_of_length_le i1, List.take_of_length_le i2, List.take_of_length_le i3, e2, e3]
theorem tame_len {T : IData} (h : TameD T 9) : T.items.length ≤ 9 ∧ T.cost.length ≤ 9 ∧ T.sets.length ≤ 9 := by
  rcases h with ⟨h1, h2, h3, h4, h5, h6, h7⟩ | ⟨h1, h2, h3, h4, h5, h6, h7⟩ | ⟨h1, h2, h3, h4, h5, h6, h7, h8, h9⟩
  · rw [h5, h7]; exact ⟨h3, by simp, by simp⟩
  · rw [h4, h5]; exact ⟨by simp, by simp, h6⟩
  · rw [h3, h5]; exact ⟨by simp, by omega, by simp⟩
/- One number beyond its limit. -/
theorem far_items {T : IData} (h : TameD T 9) (hk : T.kind = 0) {i : Nat} (hi : i < T.items.length) (v : Int) : checkR { T with items := T.items.set i (v, 2147483649) } = 22 ∧ nR { T with items := T.items.set i (v, 2147483649) } = 0 := by
  obtain ⟨f1, f2, f3, f4⟩ := tame_four h (by omega)
  refine chk_small f1 ?_ ?_ f4 ?_
  · rw [lean1_iff] at f2 ⊢; simpa using f2
  · rw [few1_iff] at f3 ⊢; simpa using f3
  · have hm : (v, (2147483649 : Int)) ∈ T.items.set i (v, 2147483649) := List.mem_set hi _
    have : ((T.items.set i (v, 2147483649)).all fun p => fromB p.1 0 && fromB p.2 0) = false := by
      rw [List.all_eq_false]
      exact ⟨_, hm, by simp [fromB]⟩
    simp only [smallB, this, Bool.false_and, Bool.and_false]
theorem far_cap {T : IData} (h : TameD T 9) (hk : T.kind = 0) : checkR { T with cap := 2147483649 } = 22 ∧ nR { T with cap := 2147483649 } = 0 := by
  obtain ⟨f1, f2, f3, f4⟩ := tame_four h (by omega)
  refine chk_small f1 ?_ f3 f4 ?_
  · rw [lean1_iff] at f2 ⊢; simp only [decide_eq_true_eq] at f2 ⊢; exact ⟨.inl hk, f2.2.1, f2.2.2⟩
  · have : fromB 2147483649 0 = false := by decide
    simp only [smallB, this, Bool.false_and]
theorem far_sets {T : IData} (h : TameD T 9) (hk : T.kind = 3) {i : Nat} {p : Int × List Int} (hi : T.sets[i]? = some p) : checkR { T with sets := T.sets.set i (-1, p.2) } = 22 ∧ nR { T with sets := T.sets.set i (-1, p.2) } = 0 := by
  obtain ⟨f1, f2, f3, f4⟩ := tame_four h (by omega)
  have hl : i < T.sets.length := (List.getElem?_eq_some_iff.1 hi).1
  refine chk_small f1 ?_ ?_ ?_ ?_
  · rw [lean1_iff] at f2 ⊢; simpa using f2
  · rw [few1_iff] at f3 ⊢; simpa using f3
  · simp only [shapedB, Bool.and_eq_true, List.all_eq_true] at f4 ⊢
    refine ⟨f4.1, fun q hq => ?_⟩
    rcases List.mem_or_eq_of_mem_set hq with hq | rfl
    · exact f4.2 q hq
    · exact f4.2 p (List.mem_of_getElem? hi)
  · have hm : (-1, p.2) ∈ T.sets.set i (-1, p.2) := List.mem_set hl _
    have : ((T.sets.set i (-1, p.2)).all fun p => fromB p.1 0) = false := by
      rw [List.all_eq_false]
      exact ⟨_, hm, by simp [fromB]⟩
    simp only [smallB, this, Bool.and_false]
theorem far_size {T : IData} (h : TameD T 9) (hk : T.kind = 3) : checkR { T with size := 4097 } = 22 ∧ nR { T with size := 4097 } = 0 := by
  obtain ⟨f1, f2, f3, f4⟩ := tame_four h (by omega)
  refine chk_few f1 ?_ ?_
  · rw [lean1_iff] at f2 ⊢; simp only [decide_eq_true_eq] at f2 ⊢; exact ⟨f2.1, f2.2.1, .inl hk⟩
  · rw [few1_iff]; simp
theorem far_cost {T : IData} (h : TameD T 9) (hk : T.kind = 1 ∨ T.kind = 2) {rows : List (List Int)} (hl : rows.length = T.cost.length) (hr : ∀ (k : Nat) (r' : List Int), rows[k]? = some r' → ∃ r0, T.cost[k]? = some r0 ∧ r'.length = r0.length) {i : Nat} {r' : List Int} (hi : rows[i]? = some r') (hz : (-2147483649 : Int) ∈ r') :
    checkR { T with cost := rows } = 22 ∧ nR { T with cost := rows } = 0 := by
  obtain ⟨f1, f2, f3, f4⟩ := tame_four h (by omega)
  refine chk_small f1 ?_ ?_ ?_ ?_
  · rw [lean1_iff] at f2 ⊢; simpa [hl] using f2
  · rw [few1_iff] at f3 ⊢; simpa [hl] using f3
  · simp only [shapedB, Bool.and_eq_true, List.all_eq_true, beq_iff_eq] at f4 ⊢
    refine ⟨fun r hm => ?_, f4.2⟩
    obtain ⟨k, hk, rfl⟩ := List.getElem_of_mem hm
    obtain ⟨r0, h0, h1⟩ := hr k _ (List.getElem?_eq_getElem hk)
    rw [h1, hl]
    exact f4.1 r0 (List.mem_of_getElem? h0)
  · have : (rows.all fun r => r.all fun c => fromB c (-2147483648)) = false := by
      rw [List.all_eq_false]
      refine ⟨r', List.mem_of_getElem? hi, ?_⟩
      simp only [Bool.not_eq_true, List.all_eq_false]
      exact ⟨_, hz, by simp [fromB]⟩
    simp only [smallB, this, Bool.false_and, Bool.and_false]
section
variable {w : World} {base : Nat} {e tr te ts ti t : TypeId} {s n : Nat} {v : Value} {xs : List Value} {p : Addr} {cs : Array Value}
theorem own_to_blk (h : w.ownsRow base e s v n xs) {g : Nat} (hg : v.ownBlock = some g) : ∃ cs, Blk w g e cs := by
  rcases h.2 with ⟨rfl, _⟩ | ⟨g1, cap, cur, rfl, _, hh, _⟩
  · simp [Value.ownBlock] at hg
  · have e1 : g1 = g := by simpa [Value.ownBlock] using hg
    subst e1
    exact ⟨cur, ⟨hh⟩⟩
theorem own_sep (h : w.ownsRow base e s v n xs) (hb : Blk w p.block t cs) (hne : e ≠ t) (u : Value) : (w.setCell p u).ownsRow base e s v n xs := own_far h (own_blk_apart h hb hne) u
theorem OwnP.sep {l : List (Int × Int)} (h : OwnP w base ti v l) (hb : Blk w p.block t cs) (hne : ti ≠ t) (u : Value) : OwnP (w.setCell p u) base ti v l := own_sep h hb hne u
theorem OwnR.sep {rows : List (List Int)} (h : OwnR w base tr te v rows) (hb : Blk w p.block t cs) (h1 : tr ≠ t) (h2 : te ≠ t) (u : Value) : OwnR (w.setCell p u) base tr te v rows := by
  obtain ⟨us, a, b, c⟩ := h
  exact ⟨us, a, own_sep b hb h1 u, fun i r x hr hx => own_sep (c i r x hr hx) hb h2 u⟩
theorem OwnS.sep {l : List (Int × List Int)} (h : OwnS w base ts te v l) (hb : Blk w p.block t cs) (h1 : ts ≠ t) (h2 : te ≠ t) (u : Value) : OwnS (w.setCell p u) base ts te v l := by
  obtain ⟨us, a, b, c⟩ := h
  exact ⟨us, a, own_sep b hb h1 u, fun i r x hr hx => ⟨(c i r x hr hx).1, own_sep (c i r x hr hx).2 hb h2 u⟩⟩
theorem flat2_set1 : ∀ (l : List (Value × Value)) (i : Nat) (q : Value × Value) (u : Value), l[i]? = some q → (flat2 l).set (i * 2) u = flat2 (l.set i (u, q.2))
  | [], i, q, u, h => by simp at h
  | a :: l, 0, q, u, h => by simp at h; subst h; rfl
  | a :: l, i + 1, q, u, h => by
    have := flat2_set1 l i q u (by simpa using h)
    rw [show (i + 1) * 2 = i * 2 + 1 + 1 by omega]
    simp only [flat2, List.set_cons_succ, this]
theorem flat2_set2 : ∀ (l : List (Value × Value)) (i : Nat) (q : Value × Value) (u : Value), l[i]? = some q → (flat2 l).set (i * 2 + 1) u = flat2 (l.set i (q.1, u))
  | [], i, q, u, h => by simp at h
  | a :: l, 0, q, u, h => by simp at h; subst h; rfl
  | a :: l, i + 1, q, u, h => by
    have := flat2_set2 l i q u (by simpa using h)
    rw [show (i + 1) * 2 + 1 = i * 2 + 1 + 1 + 1 by omega]
    simp only [flat2, List.set_cons_succ, this]
/-- The second number of a pair. -/
theorem OwnP.put2 {l : List (Int × Int)} {g d : Nat} (h : OwnP w base ti (.slice (some ⟨g, 0, none⟩) l.length d) l) {i : Nat} {q : Int × Int} (hi : l[i]? = some q) (z : Int) : OwnP (w.setCell ⟨g, i * 2 + 1, none⟩ (.int .i64 z)) base ti (.slice (some ⟨g, 0, none⟩) (l.set i (q.1, z)).length d) (l.set i (q.1, z)) := by
  have hl : i < l.length := (List.getElem?_eq_some_iff.1 hi).1
  have := own_store h (i * 2 + 1) (by omega) (.int .i64 z)
  rw [flat2_set2 (l.map pairI) i (pairI q) _ (by rw [List.getElem?_map, hi]; rfl)] at this
  unfold OwnP
  rw [List.length_set]
  have e : (l.set i (q.1, z)).map pairI = (l.map pairI).set i ((pairI q).1, .int .i64 z) := by rw [List.map_set]; rfl
  rw [e]
  exact this
/-- The number of a set. -/
theorem OwnS.put1 {l : List (Int × List Int)} {g d : Nat} (h : OwnS w base ts te (.slice (some ⟨g, 0, none⟩) l.length d) l) (hne : te ≠ ts) {i : Nat} {q : Int × List Int} (hi : l[i]? = some q) (z : Int) : OwnS (w.setCell ⟨g, i * 2, none⟩ (.int .i64 z)) base ts te (.slice (some ⟨g, 0, none⟩) (l.set i (z, q.2)).length d) (l.set i (z, q.2)) := by
  obtain ⟨us, a, b, c⟩ := h
  have hl : i < l.length := (List.getElem?_eq_some_iff.1 hi).1
  obtain ⟨cs, hb⟩ := own_to_blk b (g := g) rfl
  have hu : us[i]? = some (us[i]'(by omega)) := List.getElem?_eq_getElem (by omega)
  have hs := own_store b (i * 2) (by omega) (.int .i64 z)
  rw [flat2_set1 us i _ _ hu] at hs
  refine ⟨us.set i (.int .i64 z, (us[i]'(by omega)).2), by rw [List.length_set, List.length_set, a], by rw [List.length_set]; exact hs, fun k p u hp hk => ?_⟩
  rw [List.getElem?_set] at hp hk
  by_cases hik : i = k
  · subst hik
    rw [if_pos rfl, if_pos hl] at hp
    rw [if_pos rfl, if_pos (by omega)] at hk
    simp at hp hk
    subst hp hk
    exact ⟨rfl, own_sep (c i q _ hi hu).2 (p := ⟨g, i * 2, none⟩) hb hne _⟩
  · rw [if_neg hik] at hp hk
    exact ⟨(c k p u hp hk).1, own_sep (c k p u hp hk).2 (p := ⟨g, i * 2, none⟩) hb hne _⟩
theorem rowsel {α : Type} {n : Nat} {R : Nat → α → Prop} (h : ∀ i, i < n → ∃ x, R i x) : ∃ l : List α, l.length = n ∧ ∀ i x, l[i]? = some x → R i x := by
  induction n with
  | zero => exact ⟨[], rfl, fun i x h => by simp at h⟩
  | succ n ih =>
    obtain ⟨l, hl, hr⟩ := ih (fun i hi => h i (by omega))
    obtain ⟨x, hx⟩ := h n (by omega)
    refine ⟨l ++ [x], by simp [hl], fun i y hy => ?_⟩
    rcases getElem?_snoc hy with ⟨_, h1⟩ | ⟨rfl, rfl⟩
    · exact hr i y h1
    · rw [hl]; exact hx
/-- A number of a row of the matrix: what the rows are then. -/
theorem OwnR.put {rows : List (List Int)} {D : Option Addr} {m d : Nat} (h : OwnR w base tr te (.slice D m d) rows) (hne : tr ≠ te) {i j : Nat} {r : List Int} (hi : rows[i]? = some r) (hj : j < r.length) (z : Int) :
    ∃ gh g c, D = some ⟨gh, 0, none⟩ ∧ w.cell? ⟨gh, i, none⟩ = some (.slice (some ⟨g, 0, none⟩) r.length c) ∧ w.frozen? ⟨g, j, none⟩ = false ∧ w.cell? ⟨g, j, none⟩ = some (.int .i64 (r.getD j 0)) ∧ (∃ cs, Blk w g te cs) ∧ base ≤ g ∧
      ∃ rows', rows'.length = rows.length ∧ (∀ (k : Nat) (r' : List Int), rows'[k]? = some r' → ∃ r0, rows[k]? = some r0 ∧ r'.length = r0.length ∧ ∀ x ∈ r', x ∈ r0 ∨ x = z) ∧ (∃ r', rows'[i]? = some r' ∧ z ∈ r') ∧
        OwnR (w.setCell ⟨g, j, none⟩ (.int .i64 z)) base tr te (.slice D m d) rows' := by
  obtain ⟨us, a, b, c⟩ := h
  have hl : i < rows.length := (List.getElem?_eq_some_iff.1 hi).1
  have hm : m = rows.length := by obtain ⟨D', d', e, _⟩ := own_slice b; injection e
  subst hm
  obtain ⟨gh, e1, _, _, hc, _⟩ := own_lt b (by omega)
  have hu : us[i]? = some (us[i]'(by omega)) := List.getElem?_eq_getElem (by omega)
  have hrow := c i r _ hi hu
  obtain ⟨G, cg, eu, _, _⟩ := own_slice hrow
  rw [eu] at hrow hu
  obtain ⟨g, eg, hbg, _, hcg, hfg⟩ := own_lt hrow (by omega)
  subst eg
  obtain ⟨cs, hb⟩ := own_to_blk hrow (g := g) rfl
  refine ⟨gh, g, cg, e1, hc i _ hu, hfg j, hcg j _ (by simp [List.getD, List.getElem?_eq_getElem hj]), ⟨cs, hb⟩, hbg, ?_⟩
  have key : ∀ k, k < rows.length → ∃ r' : List Int, ∃ r0 u, rows[k]? = some r0 ∧ us[k]? = some u ∧ r'.length = r0.length ∧ (∀ x ∈ r', x ∈ r0 ∨ x = z) ∧ (k = i → z ∈ r') ∧ (w.setCell ⟨g, j, none⟩ (.int .i64 z)).ownsRow base te 1 u r'.length (r'.map (Value.int .i64)) := by
    intro k hk
    have h0 : rows[k]? = some (rows[k]) := List.getElem?_eq_getElem hk
    have hk2 : us[k]? = some (us[k]'(by omega)) := List.getElem?_eq_getElem (by omega)
    have hr0 := c k _ _ h0 hk2
    by_cases hg : (us[k]'(by omega)).ownBlock = some g
    · obtain ⟨A, cc, ek, _, _⟩ := own_slice hr0
      rw [ek] at hr0 hk2 hg
      have hA : A = some ⟨g, 0, none⟩ := by
        rcases hr0.2 with ⟨e0, _⟩ | ⟨g1, cap, cur, e0, _, _, _⟩
        · injection e0 with e0; subst e0; simp [Value.ownBlock] at hg
        · injection e0 with e0; subst e0
          have : g1 = g := by simpa [Value.ownBlock] using hg
          rw [this]
      subst hA
      by_cases hjk : j < (rows[k]).length
      · have hs := own_store hr0 j (by omega) (.int .i64 z)
        refine ⟨(rows[k]).set j z, _, _, h0, hk2, by rw [List.length_set], fun x hx => ?_, fun _ => List.mem_set hjk _, by rw [List.length_set, List.map_set]; exact hs⟩
        rcases List.mem_or_eq_of_mem_set hx with hx | rfl
        · exact .inl hx
        · exact .inr rfl
      · have hki : k ≠ i := fun e => by
          subst e
          rw [hi] at h0
          have := Option.some.inj h0
          rw [← this] at hjk
          exact hjk hj
        refine ⟨rows[k], _, _, h0, hk2, rfl, fun x hx => .inl hx, fun e => absurd e hki, ?_⟩
        have hs := (hr0.stored j (.int .i64 z)).1
        rwa [List.set_eq_of_length_le (by rw [List.length_map]; omega)] at hs
    · refine ⟨rows[k], _, _, h0, hk2, rfl, fun x hx => .inl hx, fun e => ?_, own_far hr0 (p := ⟨g, j, none⟩) hg _⟩
      subst e
      rw [hk2] at hu
      exact absurd (by rw [Option.some.inj hu]; rfl) hg
  obtain ⟨rows', hl', hrows⟩ := rowsel key
  refine ⟨rows', hl', fun k r' hk => ?_, ?_, us, by rw [hl', a], ?_, fun k r' u hk hu' => ?_⟩
  · obtain ⟨r0, u, h1, h2, h3, h4, _⟩ := hrows k r' hk
    exact ⟨r0, h1, h3, h4⟩
  · have hk : rows'[i]? = some (rows'[i]'(by omega)) := List.getElem?_eq_getElem (by omega)
    obtain ⟨r0, u, h1, h2, h3, h4, h5, _⟩ := hrows i _ hk
    exact ⟨_, hk, h5 rfl⟩
  · rw [hl']
    exact own_sep b (p := ⟨g, j, none⟩) hb hne _
  · obtain ⟨r0, u0, h1, h2, h3, h4, h5, h6⟩ := hrows k r' hk
    rw [h2] at hu'
    obtain rfl := Option.some.inj hu'
    exact h6
end
theorem big_in : InI 2147483649 := ⟨by omega, by omega⟩
/-- What a call owns, one number turned. -/
theorem OwnI.putItem {w : World} {k g : Nat} {T : IData} {E2 E3 : Option Addr} {e1 e2 e3 : Nat} (h : OwnI w k 52 56 T (some ⟨g, 0, none⟩) e1 E2 e2 E3 e3) {i : Nat} {q : Int × Int} (hi : T.items[i]? = some q) :
    OwnI (w.setCell ⟨g, i * 2 + 1, none⟩ (.int .i64 2147483649)) k 52 56 { T with items := T.items.set i (q.1, 2147483649) } (some ⟨g, 0, none⟩) e1 E2 e2 E3 e3 := by
  obtain ⟨cs, hb⟩ := own_to_blk h.items (g := g) rfl
  refine ⟨h.items.put2 hi _, h.cost.sep (p := ⟨g, i * 2 + 1, none⟩) hb (by decide) (by decide) _, h.sets.sep (p := ⟨g, i * 2 + 1, none⟩) hb (by decide) (by decide) _, ⟨h.in_.kind, h.in_.cap, h.in_.size, fun p hp => ?_, h.in_.cost, h.in_.sets⟩⟩
  rcases List.mem_or_eq_of_mem_set hp with hp | rfl
  · exact h.in_.items p hp
  · exact ⟨(h.in_.items q (List.mem_of_getElem? hi)).1, big_in⟩
theorem OwnI.putSet {w : World} {k g : Nat} {T : IData} {E1 E2 : Option Addr} {e1 e2 e3 : Nat} (h : OwnI w k 52 56 T E1 e1 E2 e2 (some ⟨g, 0, none⟩) e3) {i : Nat} {q : Int × List Int} (hi : T.sets[i]? = some q) :
    OwnI (w.setCell ⟨g, i * 2, none⟩ (.int .i64 (-1))) k 52 56 { T with sets := T.sets.set i (-1, q.2) } E1 e1 E2 e2 (some ⟨g, 0, none⟩) e3 := by
  have hl : i < T.sets.length := (List.getElem?_eq_some_iff.1 hi).1
  obtain ⟨us, ha, hbo, hc⟩ := h.sets
  obtain ⟨cs, hb⟩ := own_to_blk hbo (g := g) rfl
  refine ⟨h.items.sep (p := ⟨g, i * 2, none⟩) hb (by decide) _, h.cost.sep (p := ⟨g, i * 2, none⟩) hb (by decide) (by decide) _, h.sets.put1 (by decide) hi _, ⟨h.in_.kind, h.in_.cap, h.in_.size, h.in_.items, h.in_.cost, fun p hp => ?_⟩⟩
  rcases List.mem_or_eq_of_mem_set hp with hp | rfl
  · exact h.in_.sets p hp
  · exact ⟨⟨by omega, by omega⟩, (h.in_.sets q (List.mem_of_getElem? hi)).2⟩
/-- A store into a variable of another type. -/
theorem OwnI.sepBox {w : World} {k g j : Nat} {T : IData} {E1 E2 E3 : Option Addr} {e1 e2 e3 : Nat} {cs : Array Value} (h : OwnI w k 52 56 T E1 e1 E2 e2 E3 e3) (hb : Blk w g 33 cs) (u : Value) : OwnI (w.setCell ⟨g, j, none⟩ u) k 52 56 T E1 e1 E2 e2 E3 e3 :=
  ⟨h.items.sep (p := ⟨g, j, none⟩) hb (by decide) _, h.cost.sep (p := ⟨g, j, none⟩) hb (by decide) (by decide) _, h.sets.sep (p := ⟨g, j, none⟩) hb (by decide) (by decide) _, h.in_⟩
theorem OwnI.capBig {w : World} {k : Nat} {T : IData} {E1 E2 E3 : Option Addr} {e1 e2 e3 : Nat} (h : OwnI w k 52 56 T E1 e1 E2 e2 E3 e3) : OwnI w k 52 56 { T with cap := 2147483649 } E1 e1 E2 e2 E3 e3 :=
  ⟨h.items, h.cost, h.sets, ⟨h.in_.kind, big_in, h.in_.size, h.in_.items, h.in_.cost, h.in_.sets⟩⟩
theorem OwnI.sizeBig {w : World} {k : Nat} {T : IData} {E1 E2 E3 : Option Addr} {e1 e2 e3 : Nat} (h : OwnI w k 52 56 T E1 e1 E2 e2 E3 e3) : OwnI w k 52 56 { T with size := 4097 } E1 e1 E2 e2 E3 e3 :=
  ⟨h.items, h.cost, h.sets, ⟨h.in_.kind, h.in_.cap, ⟨by show (-9223372036854775808 : Int) ≤ 4097; omega, by show (4097 : Int) ≤ 9223372036854775807; omega⟩, h.in_.items, h.in_.cost, h.in_.sets⟩⟩
theorem own_two {w : World} {base : Nat} {e : TypeId} {A : Option Addr} {n c : Nat} {xs : List Value} (h : w.ownsRow base e 2 (.slice A n c) n xs) (h0 : 0 < n) {t : TypeId} {ga : Nat} {cs : Array Value} (hb : Blk w ga t cs) (hne : e ≠ t) :
    ∃ g, A = some ⟨g, 0, none⟩ ∧ ga ≠ g ∧ base ≤ g ∧ (∀ j u, xs[j]? = some u → w.cell? ⟨g, j, none⟩ = some u) ∧ ∀ j, w.frozen? ⟨g, j, none⟩ = false := by
  obtain ⟨g, h1, h2, h3, h4, h5⟩ := own_lt h h0
  subst h1
  exact ⟨g, rfl, fun e => own_blk_apart h hb hne (by subst e; rfl), h2, h4, h5⟩
end Go.Proofs.YteddbdmddgmicaaDoor
