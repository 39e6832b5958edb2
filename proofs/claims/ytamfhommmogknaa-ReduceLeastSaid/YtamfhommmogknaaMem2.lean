/- Words for rows of memory whose elements have two cells. -/
import Derived.Test.YtamfhommmogknaaMem
import Derived.Test.YtamfhommmogknaaNumMath
namespace Go.Proofs.Ytamfhommmogknaa
open Go Go.RowKit
set_option linter.unusedVariables false
set_option linter.unusedSimpArgs false
set_option maxRecDepth 100000

section
variable {P : Program} {ops : Array Oper} {rest : List Oper} {o : Oper} {a : Act} {Q : Exit → Act → World → Prop}
/-- append(v, x), one element of two cells, behind 'at_builtin'. -/
theorem app2 {w0 W : World} (hgd : o.guard = none) (s x : Operand) (t e : TypeId) (z : Value) (bytes : Nat)
    (ho : o.op = .call { callee := .builtin .append, args := #[s, x], argTypes := #[t, t] })
    (ht : P.underlying t = some (.slice e)) (hinfo : (P.info? e).map (fun i => (i.zero, i.size, i.bytes)) = some (some z, 2, bytes)) (hz : z.cells.size = 2) (hb0 : 0 < bytes)
    (v : Value) (n : Nat) (xs : List Value) (y1 y2 : Value) (hs : a.eval s = v) (hx : a.eval x = .slice (some ⟨W.heap.size, 0, none⟩) 1 1) (h1 : y1.oneCell' = true) (h2 : y2.oneCell' = true)
    (HO : W.ownsRow w0.heap.size e 2 v n xs) (HB : Below w0.heap.size w0 W) (hl : (n + 1) * bytes ≤ 140737488355328)
    (h : ∀ v1 w1, w1.ownsRow w0.heap.size e 2 v1 (n + 1) (xs ++ [y1, y2]) → Below w0.heap.size w0 w1 → W.grownBy w1 v.ownBlock → (v1.ownBlock = v.ownBlock ∨ ∃ b, v1.ownBlock = some b ∧ W.heap.size ≤ b) → wpList P ops Q rest (a.put o.dst v1) w1) :
    wpList P ops Q (o :: rest) a (W.alloc (.cells #[y1, y2] e)) := by
  obtain ⟨i0, hi, hzz⟩ := Option.map_eq_some_iff.1 hinfo
  simp only [Prod.mk.injEq] at hzz
  obtain ⟨hz0, hz1, hz2⟩ := hzz
  have hlen : n + 1 ≤ 140737488355328 := Nat.le_trans (Nat.le_mul_of_pos_right _ hb0) hl
  refine wpList_append_own_at (W.alloc (.cells #[y1, y2] e)) hgd s x t ho w0.heap.size e i0 z 2 bytes ht hi hz0 hz1 hz2 hz (by omega) v n xs hs (HO.alloc _) ⟨W.heap.size, 0, none⟩ 1 1 [y1, y2] hx rfl
    (World.news_of_block (cs := #[y1, y2]) (t := e) (fr := (0, 0)) (heap_alloc_new W _)) (by simp; exact ⟨h1, h2⟩) (by simp only [maxLen]; omega) hl (by simp; have := HB.size; omega) ?_
  intro v1 w1 hown hg _ hat
  refine h v1 w1 (by simpa using hown) ((bl_alloc HB _).grown hg (by simp; have := HB.size; omega) (own_base HO)) (World.grownBy.trans (World.grownBy_alloc W _ _) hg) ?_
  rcases hat with hat | hat
  · exact .inl hat
  · exact .inr ⟨_, hat, by simp⟩
end

/-- Pairs of numbers, cell by cell. -/
def flat : List (Int × Int) → List Value
  | [] => []
  | p :: r => .int .i64 p.1 :: .int .i64 p.2 :: flat r
theorem flat_length : ∀ rs : List (Int × Int), (flat rs).length = rs.length * 2
  | [] => rfl
  | p :: r => by simp only [flat, List.length_cons, flat_length r]; omega
theorem flat_get : ∀ (rs : List (Int × Int)) (i : Nat) (p : Int × Int), rs[i]? = some p → (flat rs)[i * 2]? = some (.int .i64 p.1) ∧ (flat rs)[i * 2 + 1]? = some (.int .i64 p.2)
  | [], i, p, h => by simp at h
  | q :: r, 0, p, h => by simp at h; subst h; exact ⟨rfl, rfl⟩
  | q :: r, i + 1, p, h => by
    have h1 := flat_get r i p (by simpa using h)
    simp only [flat]
    rw [show (i + 1) * 2 = i * 2 + 1 + 1 by omega]
    simpa using h1
/-- A row of pairs, as a walk reads it. -/
theorem own_pairs {w : World} {base : Nat} {e : TypeId} {v : Value} {rs : List (Int × Int)} (h : w.ownsRow base e 2 v rs.length (flat rs)) (h0 : 0 < rs.length) :
    ∃ g c, v = .slice (some ⟨g, 0, none⟩) rs.length c ∧ rs.length ≤ c ∧ c ≤ 9223372036854775807 ∧ g < w.heap.size ∧ base ≤ g ∧
      ∀ i p, rs[i]? = some p → w.cell? ⟨g, i * 2, none⟩ = some (.int .i64 p.1) ∧ w.cell? ⟨g, i * 2 + 1, none⟩ = some (.int .i64 p.2) := by
  rcases h.2 with ⟨_, hn⟩ | ⟨g, cap, cur, hv, hb, hg, h1, h2, h3, h4⟩
  · omega
  · refine ⟨g, cap, hv, h1, by simpa only [maxLen] using h2, (Array.getElem?_eq_some_iff.1 hg).1, hb, fun i p hp => ?_⟩
    have hl : i < rs.length := (List.getElem?_eq_some_iff.1 hp).1
    obtain ⟨a1, a2⟩ := flat_get rs i p hp
    rw [← h4, List.getElem?_take] at a1 a2
    rw [if_pos (by omega)] at a1 a2
    rw [cell_of_row w g _ cur e (0, 0) hg, cell_of_row w g _ cur e (0, 0) hg]
    exact ⟨by simpa using a1, by simpa using a2⟩
section
variable {P : Program} {ops : Array Oper} {rest : List Oper} {o : Oper} {a : Act} {Q : Exit → Act → World → Prop}
/-- append(v, x), one element of one cell, onto a row that lies from a given block on. -/
theorem app1b {W : World} (base : Nat) (hbase : base ≤ W.heap.size) (hgd : o.guard = none) (s x : Operand) (t e : TypeId) (z : Value) (bytes : Nat)
    (ho : o.op = .call { callee := .builtin .append, args := #[s, x], argTypes := #[t, t] })
    (ht : P.underlying t = some (.slice e)) (hinfo : (P.info? e).map (fun i => (i.zero, i.size, i.bytes)) = some (some z, 1, bytes)) (hz : z.cells.size = 1) (hb0 : 0 < bytes)
    (v : Value) (n : Nat) (xs : List Value) (y : Value) (hs : a.eval s = v) (hx : a.eval x = .slice (some ⟨W.heap.size, 0, none⟩) 1 1) (h1 : y.oneCell' = true)
    (HO : W.ownsRow base e 1 v n xs) (hl : (n + 1) * bytes ≤ 140737488355328)
    (h : ∀ v1 w1, w1.ownsRow base e 1 v1 (n + 1) (xs ++ [y]) → W.grownBy w1 v.ownBlock → wpList P ops Q rest (a.put o.dst v1) w1) :
    wpList P ops Q (o :: rest) a (W.alloc (.cells #[y] e)) := by
  obtain ⟨i0, hi, hzz⟩ := Option.map_eq_some_iff.1 hinfo
  simp only [Prod.mk.injEq] at hzz
  obtain ⟨hz0, hz1, hz2⟩ := hzz
  have hlen : n + 1 ≤ 140737488355328 := Nat.le_trans (Nat.le_mul_of_pos_right _ hb0) hl
  refine wpList_append_own_at (W.alloc (.cells #[y] e)) hgd s x t ho base e i0 z 1 bytes ht hi hz0 hz1 hz2 hz (by omega) v n xs hs (HO.alloc _) ⟨W.heap.size, 0, none⟩ 1 1 [y] hx rfl
    (World.news_of_block (cs := #[y]) (t := e) (fr := (0, 0)) (heap_alloc_new W _)) (by simpa using h1) (by simp only [maxLen]; omega) hl (by simp; omega) ?_
  intro v1 w1 hown hg _ hat
  exact h v1 w1 (by simpa using hown) (World.grownBy.trans (World.grownBy_alloc W _ _) hg)
end
theorem own_set {w : World} {base : Nat} {e : TypeId} {size n : Nat} {v : Value} {xs : List Value} (h : w.ownsRow base e size v n xs) {p : Addr} (hp : p.block < base) (u : Value) : (w.setCell p u).ownsRow base e size v n xs := by
  rcases h with ⟨h1, ⟨hv, hn⟩ | ⟨g, cap, cur, hv, hb, hg, hr⟩⟩
  · exact ⟨h1, .inl ⟨hv, hn⟩⟩
  · exact ⟨h1, .inr ⟨g, cap, cur, hv, hb, (Below.heap_setCell w p u g (by omega)).trans hg, hr⟩⟩
/-- A row of numbers, as a walk reads it. -/
theorem own_nums {w : World} {base : Nat} {e : TypeId} {v : Value} {L : List Int} (h : w.ownsRow base e 1 v L.length (L.map (Value.int .i64))) (h0 : 0 < L.length) :
    ∃ g c, v = .slice (some ⟨g, 0, none⟩) L.length c ∧ L.length ≤ c ∧ c ≤ 9223372036854775807 ∧ g < w.heap.size ∧
      ∀ (j : Nat) (x : Int), L[j]? = some x → w.cell? ⟨g, j, none⟩ = some (.int .i64 x) := by
  rcases h.2 with ⟨_, hn⟩ | ⟨g, cap, cur, hv, hb, hg, h1, h2, h3, h4⟩
  · omega
  · refine ⟨g, cap, hv, h1, by simpa only [maxLen] using h2, (Array.getElem?_eq_some_iff.1 hg).1, fun j x hx => ?_⟩
    have hl : j < L.length := (List.getElem?_eq_some_iff.1 hx).1
    have a1 : (L.map (Value.int .i64))[j]? = some (.int .i64 x) := by rw [List.getElem?_map, hx]; rfl
    rw [← h4, List.getElem?_take] at a1
    rw [if_pos (by omega)] at a1
    rw [cell_of_row w g _ cur e (0, 0) hg]
    simpa using a1
end Go.Proofs.Ytamfhommmogknaa
