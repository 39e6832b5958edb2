/- The document's prices. -/
import Derived.Test.YtamfhommmogknaaDI
import Derived.BigQuiet
namespace Go.Proofs.Ytamfhommmogknaa
open Go Go.RowKit
set_option linter.unusedVariables false
set_option linter.unusedSimpArgs false
set_option maxRecDepth 100000

/-- Lines one behind the other: i are done, one is at its place k. -/
def stG (L : Nat → Nat → Int × Bool) (n i k : Nat) : List (Int × Bool) := (List.range n).map fun j => if j < i then L j n else if j = i then L j k else noLine
section
variable {L : Nat → Nat → Int × Bool} {n i k : Nat}
theorem stG_len : (stG L n i k).length = n := by simp [stG]
theorem stG_get (h : i < n) : (stG L n i k)[i]? = some (L i k) := by simp [stG, h]
theorem stG_start (h : ∀ j, L j 0 = noLine) : stG L n 0 0 = List.replicate n noLine := by
  apply List.ext_getElem?
  intro j
  by_cases hj : j < n
  · simp only [stG, List.getElem?_map, List.getElem?_range hj, Option.map_some, List.getElem?_replicate, if_pos hj]
    rw [if_neg (by omega)]
    split
    · rw [h]
    · rfl
  · rw [List.getElem?_eq_none (by rw [stG_len]; omega), List.getElem?_eq_none (by simp; omega)]
theorem stG_next (h : ∀ j, L j 0 = noLine) : stG L n i n = stG L n (i + 1) 0 := by
  apply List.map_congr_left
  intro j hj
  by_cases h1 : j < i
  · rw [if_pos h1, if_pos (by omega)]
  · rw [if_neg h1]
    by_cases h2 : j = i
    · rw [if_pos h2, if_pos (by omega)]
    · rw [if_neg h2, if_neg (by omega)]
      split
      · rw [h]
      · rfl
theorem stG_step (h : i < n) : stG L n i (k + 1) = (stG L n i k).set i (L i (k + 1)) := by
  apply List.ext_getElem?
  intro j
  rw [List.getElem?_set]
  by_cases hj : j < n
  · by_cases h2 : i = j
    · subst h2
      rw [if_pos rfl, if_pos (by rw [stG_len]; exact hj), stG_get hj]
    · rw [if_neg h2]
      simp only [stG, List.getElem?_map, List.getElem?_range hj, Option.map_some]
      rw [if_neg (fun e => h2 e.symm : ¬ j = i), if_neg (fun e => h2 e.symm : ¬ j = i)]
  · rw [List.getElem?_eq_none (by rw [stG_len]; omega)]
    split
    · rename_i e; omega
    · rw [List.getElem?_eq_none (by rw [stG_len]; omega)]
/-- The numbers of the lines. -/
def numG (L : Nat → Nat → Int × Bool) (n i k : Nat) : List Int := (stG L n i k).map (·.1)
theorem numG_len : (numG L n i k).length = n := by simp [numG, stG_len]
theorem numG_get (h : i < n) : (numG L n i k)[i]? = some (L i k).1 := by simp [numG, stG_get h]
theorem numG_start (h : ∀ j, L j 0 = noLine) : numG L n 0 0 = List.replicate n 0 := by
  unfold numG
  rw [stG_start h, List.map_replicate]
theorem numG_next (h : ∀ j, L j 0 = noLine) : numG L n i n = numG L n (i + 1) 0 := by
  unfold numG
  rw [stG_next h]
theorem numG_step (h : i < n) : numG L n i (k + 1) = (numG L n i k).set i (L i (k + 1)).1 := by
  unfold numG
  rw [stG_step h, List.map_set]
theorem numG_same (h : i < n) (e : L i (k + 1) = L i k) : numG L n i (k + 1) = numG L n i k := by
  rw [numG_step h, e]
  apply List.ext_getElem?
  intro j
  rw [List.getElem?_set]
  split
  · rename_i e2
    subst e2
    rw [numG_get h, if_pos (by rw [numG_len]; exact h)]
  · rfl
theorem numG_same1 (h : i < n) (e : (L i (k + 1)).1 = (L i k).1) : numG L n i (k + 1) = numG L n i k := by
  rw [numG_step h, e]
  apply List.ext_getElem?
  intro j
  rw [List.getElem?_set]
  split
  · rename_i e2
    subst e2
    rw [numG_get h, if_pos (by rw [numG_len]; exact h)]
  · rfl
end
section
variable {c : List (List Int)} {no : List (List Bool)} {rows : List Int} {n i k : Nat} {r : List Int} {q : List Bool} {x y : Int}
theorem rowAt_zero (j : Nat) : rowAt c no j 0 = noLine := rfl
theorem lineC_zero (j : Nat) : lineC c no rows j 0 = noLine := rfl
theorem rowAt_skip (hq : no[i]? = some q) (hk : q[k]? = some true) : rowAt c no i (k + 1) = rowAt c no i k := by
  unfold rowAt
  rw [getD_of hq]
  simp only [lineR]
  rw [getD_of hk, if_pos rfl]
theorem rowAt_see (hr : c[i]? = some r) (hq : no[i]? = some q) (hx : r[k]? = some x) (hk : q[k]? = some false) : rowAt c no i (k + 1) = seeL x (rowAt c no i k) := by
  unfold rowAt
  rw [getD_of hr, getD_of hq]
  simp only [lineR]
  rw [getD_of hk, getD_of hx]
  rfl
theorem lineC_skip (hq : no[i]? = some q) (hk : q[k]? = some true) : lineC c no rows k (i + 1) = lineC c no rows k i := by
  simp only [lineC]
  rw [getD_of hq, getD_of hk, if_pos rfl]
theorem lineC_see (hr : c[i]? = some r) (hq : no[i]? = some q) (hx : r[k]? = some x) (hk : q[k]? = some false) (hy : rows[i]? = some y) : lineC c no rows k (i + 1) = seeL (x - y) (lineC c no rows k i) := by
  simp only [lineC]
  rw [getD_of hq, getD_of hk, getD_of hr, getD_of hx, getD_of hy]
  rfl
theorem rowN_num : rowN c no = numG (rowAt c no) c.length c.length 0 := rfl
theorem colN_num : colN c no = numG (lineC c no (rowN c no)) c.length c.length 0 := by
  unfold colN colL numG
  congr 1
  apply List.map_congr_left
  intro j hj
  have hj2 : j < c.length := by simpa using hj
  rw [if_neg (by omega), if_pos hj2]
theorem rowL_at (h : i < c.length) : rowAt c no i c.length ∈ rowL c no := by
  simp only [rowL, rowSt, List.mem_map, List.mem_range]
  exact ⟨i, h, by rw [if_pos h]⟩
theorem colL_at (h : k < c.length) : lineC c no (rowN c no) k c.length ∈ colL c no := by
  simp only [colL, colSt, List.mem_map, List.mem_range]
  exact ⟨k, h, by rw [if_neg (by omega)]⟩
theorem rowL_all (h : ∀ i, i < c.length → (rowAt c no i c.length).2 = true) : ∀ p ∈ rowL c no, p.2 = true := by
  intro p hp
  simp only [rowL, rowSt, List.mem_map, List.mem_range] at hp
  obtain ⟨j, hj, rfl⟩ := hp
  rw [if_pos hj]
  exact h j hj
theorem colL_all (h : ∀ k, k < c.length → (lineC c no (rowN c no) k c.length).2 = true) : ∀ p ∈ colL c no, p.2 = true := by
  intro p hp
  simp only [colL, colSt, List.mem_map, List.mem_range] at hp
  obtain ⟨j, hj, rfl⟩ := hp
  rw [if_neg (by omega)]
  exact h j hj
theorem see_new {x : Int} {p : Int × Bool} (h : p.2 = false) : seeL x p = (x, true) := by unfold seeL; rw [h]; rfl
theorem see_less {x : Int} {p : Int × Bool} (h : p.2 = true) (hx : x < p.1) : seeL x p = (x, true) := by unfold seeL; rw [if_pos h, if_pos hx]
theorem see_old {x : Int} {p : Int × Bool} (h : p.2 = true) (hx : ¬ x < p.1) : seeL x p = (p.1, true) := by unfold seeL; rw [if_pos h, if_neg hx]
end
theorem make_row {ops : Array Oper} {o : Oper} {rest : List Oper} {a : Act} {Q : Exit → Act → World → Prop} {w : World} {n : Nat} (hg : o.guard = none) (l : Operand) (hop : o.op = Op.makeSlice 29 l l) (hl : a.eval l = .int .i64 (n : Int)) (hn : n ≤ 70)
    (hK : ∀ w', w'.ownsRow w.heap.size 2 1 (.slice (some ⟨w.heap.size, 0, none⟩) n n) n ((List.replicate n (0 : Int)).map (Value.int .i64)) → Below w.heap.size w w' → wpList Try.prog ops Q rest (a.put o.dst (.slice (some ⟨w.heap.size, 0, none⟩) n n)) w') :
    wpList Try.prog ops Q (o :: rest) a w := by
  obtain ⟨ii, hii, hiz⟩ := Option.map_eq_some_iff.1 info_I
  simp only [Prod.mk.injEq] at hiz
  obtain ⟨z1, z2, z3⟩ := hiz
  refine wpList_make_full w hg l l 29 hop w.heap.size 2 ii (.int .i64 0) 1 Try.underlying29 hii z1 z2 .i64 .i64 n n n hl hl rfl rfl (by rw [z3]; omega) (by unfold maxLen; omega) (Nat.le_refl _) (fun w' h1 h2 => hK w' ?_ (bl_grown (Below.refl _ _) h2 (fun k e => by cases e)))
  have e : (madeCells (Value.int .i64 0).cells (n * 1)).toList = (List.replicate n (0 : Int)).map (Value.int .i64) := by
    rw [List.map_replicate]
    exact (congrArg (fun k => (madeCells #[Value.int .i64 0] k).toList) (Nat.mul_one n)).trans (toList_madeCells_one _ _)
  rw [e] at h1
  exact h1
end Go.Proofs.Ytamfhommmogknaa
