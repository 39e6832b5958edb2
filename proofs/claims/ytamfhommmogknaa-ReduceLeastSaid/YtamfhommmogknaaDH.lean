/- What the lines hold behind each place of a table: plain laws. -/
import Derived.Test.YtamfhommmogknaaDG
namespace Go.Proofs.Ytamfhommmogknaa
open Go Go.RowKit
set_option linter.unusedVariables false
set_option linter.unusedSimpArgs false
set_option maxRecDepth 100000

/-- A row's line behind its first k places. -/
def lineR (r : List Int) (q : List Bool) : Nat → Int × Bool
  | 0 => noLine
  | k + 1 => if q.getD k true = true then lineR r q k else seeL (r.getD k 0) (lineR r q k)
def rowAt (c : List (List Int)) (no : List (List Bool)) (j k : Nat) : Int × Bool := lineR (c.getD j []) (no.getD j []) k
/-- The lines of the rows behind place k of row i. -/
def rowSt (c : List (List Int)) (no : List (List Bool)) (n i k : Nat) : List (Int × Bool) := (List.range n).map fun j => if j < i then rowAt c no j n else if j = i then rowAt c no j k else noLine
/-- A column's line behind its first i places. -/
def lineC (c : List (List Int)) (no : List (List Bool)) (rows : List Int) (k : Nat) : Nat → Int × Bool
  | 0 => noLine
  | i + 1 => if (no.getD i []).getD k true = true then lineC c no rows k i else seeL ((c.getD i []).getD k 0 - rows.getD i 0) (lineC c no rows k i)
def colSt (c : List (List Int)) (no : List (List Bool)) (rows : List Int) (n i k : Nat) : List (Int × Bool) := (List.range n).map fun j => if j < k then lineC c no rows j (i + 1) else lineC c no rows j i
section
variable {c : List (List Int)} {no : List (List Bool)} {rows : List Int} {n i k : Nat} {r : List Int} {q : List Bool} {x y : Int}
theorem rowSt_len : (rowSt c no n i k).length = n := by simp [rowSt]
theorem colSt_len : (colSt c no rows n i k).length = n := by simp [colSt]
theorem getD_of {α : Type} {l : List α} {j : Nat} {v d : α} (h : l[j]? = some v) : l.getD j d = v := by simp [List.getD, h]
theorem rowSt_get (h : i < n) : (rowSt c no n i k)[i]? = some (rowAt c no i k) := by simp [rowSt, h]
theorem colSt_get (h : k < n) : (colSt c no rows n i k)[k]? = some (lineC c no rows k i) := by simp [colSt, h]
theorem rowSt_start : rowSt c no n 0 0 = List.replicate n noLine := by
  apply List.ext_getElem?
  intro j
  by_cases h : j < n
  · simp only [rowSt, List.getElem?_map, List.getElem?_range h, Option.map_some, List.getElem?_replicate, if_pos h]
    rw [if_neg (by omega)]
    split
    · rename_i h2; subst h2; rfl
    · rfl
  · rw [List.getElem?_eq_none (by rw [rowSt_len]; omega), List.getElem?_eq_none (by simp; omega)]
theorem colSt_start : colSt c no rows n 0 0 = List.replicate n noLine := by
  apply List.ext_getElem?
  intro j
  by_cases h : j < n
  · simp only [colSt, List.getElem?_map, List.getElem?_range h, Option.map_some, List.getElem?_replicate, if_pos h]
    rw [if_neg (by omega)]
    rfl
  · rw [List.getElem?_eq_none (by rw [colSt_len]; omega), List.getElem?_eq_none (by simp; omega)]
theorem rowSt_next : rowSt c no n i n = rowSt c no n (i + 1) 0 := by
  apply List.map_congr_left
  intro j hj
  by_cases h : j < i
  · rw [if_pos h, if_pos (by omega)]
  · rw [if_neg h]
    by_cases h2 : j = i
    · rw [if_pos h2, if_pos (by omega)]
    · rw [if_neg h2, if_neg (by omega)]
      split
      · rfl
      · rfl
theorem colSt_next : colSt c no rows n i n = colSt c no rows n (i + 1) 0 := by
  apply List.map_congr_left
  intro j hj
  have : j < n := by simpa using hj
  rw [if_pos this, if_neg (by omega)]
theorem rowSt_skip (hq : no[i]? = some q) (hk : q[k]? = some true) : rowSt c no n i (k + 1) = rowSt c no n i k := by
  apply List.map_congr_left
  intro j _
  by_cases h : j < i
  · rw [if_pos h, if_pos h]
  · rw [if_neg h, if_neg h]
    by_cases h2 : j = i
    · subst h2
      rw [if_pos rfl, if_pos rfl]
      unfold rowAt
      rw [getD_of hq]
      simp only [lineR]
      rw [getD_of hk, if_pos rfl]
    · rw [if_neg h2, if_neg h2]
theorem colSt_skip (hq : no[i]? = some q) (hk : q[k]? = some true) : colSt c no rows n i (k + 1) = colSt c no rows n i k := by
  apply List.map_congr_left
  intro j _
  by_cases h : j < k
  · rw [if_pos h, if_pos (by omega)]
  · rw [if_neg h]
    by_cases h2 : j = k
    · subst h2
      rw [if_pos (by omega)]
      simp only [lineC]
      rw [getD_of hq, getD_of hk, if_pos rfl]
    · rw [if_neg (by omega)]
theorem rowSt_see (hr : c[i]? = some r) (hq : no[i]? = some q) (hx : r[k]? = some x) (hk : q[k]? = some false) : rowSt c no n i (k + 1) = (rowSt c no n i k).set i (seeL x (rowAt c no i k)) := by
  apply List.ext_getElem?
  intro j
  rw [List.getElem?_set]
  by_cases h : j < n
  · by_cases h2 : i = j
    · subst h2
      rw [if_pos rfl, if_pos (by rw [rowSt_len]; exact h), rowSt_get h]
      congr 1
      unfold rowAt
      rw [getD_of hr, getD_of hq]
      simp only [lineR]
      rw [getD_of hk, getD_of hx]
      rfl
    · rw [if_neg h2]
      simp only [rowSt, List.getElem?_map, List.getElem?_range h, Option.map_some]
      rw [if_neg (fun e => h2 e.symm : ¬ j = i), if_neg (fun e => h2 e.symm : ¬ j = i)]
  · rw [List.getElem?_eq_none (by rw [rowSt_len]; omega)]
    split
    · rw [if_neg (by rw [rowSt_len]; omega)]
    · rw [List.getElem?_eq_none (by rw [rowSt_len]; omega)]
theorem colSt_see (hr : c[i]? = some r) (hq : no[i]? = some q) (hx : r[k]? = some x) (hk : q[k]? = some false) (hy : rows[i]? = some y) : colSt c no rows n i (k + 1) = (colSt c no rows n i k).set k (seeL (x - y) (lineC c no rows k i)) := by
  apply List.ext_getElem?
  intro j
  rw [List.getElem?_set]
  by_cases h : j < n
  · by_cases h2 : k = j
    · subst h2
      rw [if_pos rfl, if_pos (by rw [colSt_len]; exact h)]
      simp only [colSt, List.getElem?_map, List.getElem?_range h, Option.map_some]
      rw [if_pos (by omega)]
      congr 1
      simp only [lineC]
      rw [getD_of hq, getD_of hk, getD_of hr, getD_of hx, getD_of hy]
      rfl
    · rw [if_neg h2]
      simp only [colSt, List.getElem?_map, List.getElem?_range h, Option.map_some]
      by_cases h3 : j < k
      · rw [if_pos h3, if_pos (by omega)]
      · rw [if_neg h3, if_neg (by omega)]
  · rw [List.getElem?_eq_none (by rw [colSt_len]; omega)]
    split
    · rw [if_neg (by rw [colSt_len]; omega)]
    · rw [List.getElem?_eq_none (by rw [colSt_len]; omega)]
end
/-- The rows' lines, and the columns'. -/
def rowL (c : List (List Int)) (no : List (List Bool)) : List (Int × Bool) := rowSt c no c.length c.length 0
def rowN (c : List (List Int)) (no : List (List Bool)) : List Int := (rowL c no).map (·.1)
def colL (c : List (List Int)) (no : List (List Bool)) : List (Int × Bool) := colSt c no (rowN c no) c.length c.length 0
def colN (c : List (List Int)) (no : List (List Bool)) : List Int := (colL c no).map (·.1)
/-- There are prices. -/
def GoodP (c : List (List Int)) (no : List (List Bool)) : Prop := ChkP c no ∧ (∀ p ∈ rowL c no, p.2 = true) ∧ ∀ p ∈ colL c no, p.2 = true
theorem seeL_in {x : Int} {p : Int × Bool} {P : Int → Prop} (hx : P x) (hp : P p.1) : P (seeL x p).1 := by
  unfold seeL
  dsimp only
  split
  · split
    · exact hx
    · exact hp
  · exact hx
theorem lineR_in {r : List Int} {q : List Bool} (h : ∀ x ∈ r, InM x) : ∀ k, InM (lineR r q k).1
  | 0 => ⟨by show (-2147483648 : Int) ≤ 0; decide, by show (0 : Int) ≤ 2147483648; decide⟩
  | k + 1 => by
    simp only [lineR]
    split
    · exact lineR_in h k
    · refine seeL_in ?_ (lineR_in h k)
      unfold List.getD
      rcases hx : r[k]? with _ | x
      · exact ⟨by decide, by decide⟩
      · exact h x (List.mem_of_getElem? hx)
theorem rowN_in {c : List (List Int)} {no : List (List Bool)} (hP : ChkP c no) : ∀ x ∈ rowN c no, InM x := by
  intro x hx
  simp only [rowN, rowL, rowSt, List.map_map, List.mem_map, List.mem_range, Function.comp] at hx
  obtain ⟨j, hj, rfl⟩ := hx
  rw [if_pos hj]
  unfold rowAt
  have hr : c[j]? = some (c[j]) := List.getElem?_eq_getElem hj
  rw [getD_of hr]
  exact lineR_in (hP.2.2 j _ hr).2.2 _
theorem rowN_len {c : List (List Int)} {no : List (List Bool)} : (rowN c no).length = c.length := by simp [rowN, rowL, rowSt_len]
theorem colN_len {c : List (List Int)} {no : List (List Bool)} : (colN c no).length = c.length := by simp [colN, colL, colSt_len]
end Go.Proofs.Ytamfhommmogknaa
