/- One place of each row, each in another column: what it comes to, and that no fair numbers come to more. Plain. -/
import Derived.Test.YtamfhommmogknaaDV
namespace Go.Proofs.Ytamfhommmogknaa
open Go Go.RowKit
set_option linter.unusedVariables false
set_option linter.unusedSimpArgs false
set_option maxRecDepth 100000

/-- The sum of the numbers whose mark is set. -/
def usedSum : List Bool → List Int → Int
  | true :: b, v :: vs => v + usedSum b vs
  | false :: b, v :: vs => usedSum b vs
  | _, _ => 0
theorem usedSum_none : ∀ (n : Nat) (cols : List Int), usedSum (List.replicate n false) cols = 0
  | 0, cols => by simp [usedSum]
  | n + 1, [] => by simp [List.replicate_succ, usedSum]
  | n + 1, v :: vs => by simp only [List.replicate_succ, usedSum]; exact usedSum_none n vs
theorem usedSum_all : ∀ (used : List Bool) (cols : List Int), (∀ t ∈ used, t = true) → used.length = cols.length → usedSum used cols = cols.sum
  | [], [], _, _ => rfl
  | [], _ :: _, _, h => by simp at h
  | _ :: _, [], _, h => by simp at h
  | t :: b, v :: vs, ha, hl => by
    have h1 : t = true := ha t (by simp)
    subst h1
    simp only [usedSum, List.sum_cons]
    rw [usedSum_all b vs (fun x hx => ha x (by simp [hx])) (by simpa using hl)]
theorem usedSum_set : ∀ (used : List Bool) (cols : List Int) (k : Nat) (z : Int), used[k]? = some false → cols[k]? = some z → usedSum (used.set k true) cols = usedSum used cols + z
  | [], _, k, z, h, _ => by simp at h
  | _ :: _, [], k, z, _, h => by simp at h
  | t :: b, v :: vs, 0, z, h, h2 => by
    simp at h h2
    subst h h2
    simp only [List.set_cons_zero, usedSum]
    omega
  | t :: b, v :: vs, k + 1, z, h, h2 => by
    have ih := usedSum_set b vs k z (by simpa using h) (by simpa using h2)
    cases t
    · simp only [List.set_cons_succ, usedSum]; exact ih
    · simp only [List.set_cons_succ, usedSum]; omega
theorem count_set : ∀ (used : List Bool) (k : Nat), used[k]? = some false → (used.set k true).count true = used.count true + 1
  | [], k, h => by simp at h
  | t :: b, 0, h => by
    simp at h
    subst h
    simp
  | t :: b, k + 1, h => by
    have ih := count_set b k (by simpa using h)
    simp only [List.set_cons_succ, List.count_cons, ih]
    omega
/-- What is known when the rows ahead of one have their places. -/
structure WayAt (c : List (List Int)) (no : List (List Bool)) (i : Nat) (used : List Bool) (s : Int) : Prop where
  len : used.length = c.length
  cnt : used.count true = i
  low : ∀ rows cols, BoundP c no rows cols → (rows.take i).sum + usedSum used cols ≤ s
  row : ∀ j, j < i → ∃ (q : List Bool) (k : Nat), no[j]? = some q ∧ q[k]? = some false
  col : ∀ (k : Nat), used[k]? = some true → ∃ (j : Nat) (q : List Bool), no[j]? = some q ∧ q[k]? = some false
  bd : -(i * 2147483648 : Int) ≤ s ∧ s ≤ (i * 2147483648 : Int)
section
variable {c : List (List Int)} {no : List (List Bool)}
theorem WayAt.start : WayAt c no 0 (List.replicate c.length false) 0 :=
  ⟨by simp, by rw [List.count_replicate]; simp, fun rows cols _ => by rw [usedSum_none]; simp, fun j h => by omega, fun k h => by
    rw [List.getElem?_replicate] at h
    split at h <;> simp at h, by simp⟩
theorem WayAt.step {i k : Nat} {used : List Bool} {s x : Int} {r : List Int} {q : List Bool} (h : WayAt c no i used s) (hP : ChkP c no) (hr : c[i]? = some r) (hq : no[i]? = some q) (hx : r[k]? = some x) (hk : q[k]? = some false) (hu : used[k]? = some false) : WayAt c no (i + 1) (used.set k true) (s + x) := by
  have hin := (hP.2.2 i r hr).2.2 x (List.mem_of_getElem? hx)
  refine ⟨by rw [List.length_set]; exact h.len, by rw [count_set used k hu, h.cnt], fun rows cols hB => ?_, fun j hj => ?_, fun k' hk' => ?_, ?_⟩
  · have hi : i < c.length := (List.getElem?_eq_some_iff.1 hr).1
    have hkl : k < used.length := (List.getElem?_eq_some_iff.1 hu).1
    obtain ⟨y, hy⟩ : ∃ y, rows[i]? = some y := ⟨_, List.getElem?_eq_getElem (by rw [hB.2.1]; exact hi)⟩
    obtain ⟨z, hz⟩ : ∃ z, cols[k]? = some z := ⟨_, List.getElem?_eq_getElem (by rw [hB.2.2.1, ← h.len]; exact hkl)⟩
    have h1 := h.low rows cols hB
    have h2 := hB.2.2.2.2.2 i k r q x y z (.inl hi) hr hq hx hk hy hz
    rw [take_sum hy, usedSum_set used cols k z hu hz]
    omega
  · by_cases h1 : j < i
    · exact h.row j h1
    · obtain rfl : j = i := by omega
      exact ⟨q, k, hq, hk⟩
  · by_cases h1 : k' = k
    · subst h1
      exact ⟨i, q, hq, hk⟩
    · rw [List.getElem?_set_ne (Ne.symm h1)] at hk'
      exact h.col k' hk'
  · obtain ⟨a, b⟩ := h.bd
    obtain ⟨d, e⟩ := hin
    have e1 : ((i + 1 : Nat) : Int) = (i : Int) + 1 := by omega
    rw [e1]
    constructor
    · omega
    · omega
theorem lineR_some {r : List Int} {q : List Bool} {k : Nat} (hk : q[k]? = some false) : ∀ m, k < m → (lineR r q m).2 = true
  | 0, h => by omega
  | m + 1, h => by
    simp only [lineR]
    by_cases h1 : k = m
    · subst h1
      rw [if_neg (by rw [getD_of hk]; decide)]
      rfl
    · split
      · exact lineR_some hk m (by omega)
      · rfl
theorem lineC_some {rows : List Int} {q : List Bool} {j k : Nat} (hq : no[j]? = some q) (hk : q[k]? = some false) : ∀ m, j < m → (lineC c no rows k m).2 = true
  | 0, h => by omega
  | m + 1, h => by
    simp only [lineC]
    by_cases h1 : j = m
    · subst h1
      rw [if_neg (by rw [getD_of hq, getD_of hk]; decide)]
      rfl
    · split
      · exact lineC_some hq hk m (by omega)
      · rfl
theorem numG_done {L : Nat → Nat → Int × Bool} {n k : Nat} (h : k < n) : (numG L n n 0)[k]? = some (L k n).1 := by
  simp [numG, stG, h]
theorem seeL_le {x : Int} {p : Int × Bool} : (seeL x p).1 ≤ x ∧ (p.2 = true → (seeL x p).1 ≤ p.1) := by
  unfold seeL
  dsimp only
  split
  · split <;> refine ⟨by omega, fun _ => by omega⟩
  · rename_i h
    exact ⟨Int.le_refl _, fun h2 => absurd h2 h⟩
theorem lineC_le {rows : List Int} {r : List Int} {q : List Bool} {j k : Nat} {x y : Int} (hr : c[j]? = some r) (hx : r[k]? = some x) (hy : rows[j]? = some y) (hq : no[j]? = some q) (hk : q[k]? = some false) : ∀ m, j < m → (lineC c no rows k m).1 ≤ x - y
  | 0, h => by omega
  | m + 1, h => by
    simp only [lineC]
    by_cases h1 : j = m
    · subst h1
      rw [if_neg (by rw [getD_of hq, getD_of hk]; decide), getD_of hr, getD_of hx, getD_of hy]
      exact seeL_le.1
    · split
      · exact lineC_le hr hx hy hq hk m (by omega)
      · exact Int.le_trans (seeL_le.2 (lineC_some hq hk m (by omega))) (lineC_le hr hx hy hq hk m (by omega))
theorem good_bound (hG : GoodP c no) : BoundP c no (rowN c no) (colN c no) := by
  refine ⟨hG.1, rowN_len, colN_len, fun x hx => ?_, fun x hx => ?_, fun i k r q x y z _ hr hq hx hk hy hz => ?_⟩
  · obtain ⟨a, b⟩ := rowN_in hG.1 x hx
    exact ⟨by omega, by omega⟩
  · obtain ⟨a, b⟩ := colN_in hG.1 x hx
    exact ⟨by omega, by omega⟩
  · have hi : i < c.length := (List.getElem?_eq_some_iff.1 hr).1
    have hkl : k < c.length := by have := (List.getElem?_eq_some_iff.1 hx).1; have := (hG.1.2.2 i r hr).1; omega
    have h1 := lineC_le (rows := rowN c no) hr hx hy hq hk c.length hi
    have h2 : (colN c no)[k]? = some (lineC c no (rowN c no) k c.length).1 := by rw [colN_num, numG_done hkl]
    rw [h2] at hz
    obtain rfl := Option.some.inj hz
    omega
theorem good_of (hP : ChkP c no) (h1 : ∀ j, j < c.length → ∃ (q : List Bool) (k : Nat), no[j]? = some q ∧ q[k]? = some false) (h2 : ∀ k, k < c.length → ∃ (j : Nat) (q : List Bool), no[j]? = some q ∧ q[k]? = some false) : GoodP c no := by
  refine ⟨hP, rowL_all fun j hj => ?_, colL_all fun k hk => ?_⟩
  · obtain ⟨q, k, hq, hk⟩ := h1 j hj
    unfold rowAt
    rw [getD_of hq]
    obtain ⟨r, hr⟩ : ∃ r, c[j]? = some r := ⟨_, List.getElem?_eq_getElem hj⟩
    obtain ⟨q', hq', hl⟩ := (hP.2.2 j r hr).2.1
    rw [hq] at hq'
    obtain rfl := Option.some.inj hq'
    exact lineR_some hk _ (by have := (List.getElem?_eq_some_iff.1 hk).1; omega)
  · obtain ⟨j, q, hq, hq2⟩ := h2 k hk
    exact lineC_some hq hq2 _ (by have := (List.getElem?_eq_some_iff.1 hq).1; have := hP.2.1; omega)
theorem good_nil (hP : ChkP c no) (h : c.length = 0) : GoodP c no := good_of hP (fun j hj => by omega) (fun j hj => by omega)
/-- All rows have their places: no fair numbers come to more, and there are prices. -/
theorem WayAt.done {used : List Bool} {s : Int} (h : WayAt c no c.length used s) (hP : ChkP c no) : GoodP c no ∧ ∀ rows cols, BoundP c no rows cols → rows.sum + cols.sum ≤ s := by
  have hall : ∀ t ∈ used, t = true := fun t ht => ((List.count_eq_length (a := true) (l := used)).1 (by rw [h.cnt, h.len]) t ht).symm
  refine ⟨good_of hP (fun j hj => h.row j hj) (fun k hk => h.col k ?_), fun rows cols hB => ?_⟩
  · rw [List.getElem?_eq_getElem (by rw [h.len]; exact hk), hall _ (List.getElem_mem _)]
  · have h1 := h.low rows cols hB
    rw [List.take_of_length_le (by rw [hB.2.1]; exact Nat.le_refl _), usedSum_all used cols hall (by rw [h.len, hB.2.2.1])] at h1
    exact h1
end
/-- What the program's Prices hands back, and what Bound tells of it. -/
theorem prices_least {w w' : World} {c : List (List Int)} {no : List (List Bool)} {e : Ending} (h : PricesPost w c no e w') (hP : ChkP c no) :
    ∃ (us vs : List Int) (U V : Option Addr) (n u v : Nat) (ok : Bool) (N : Int), e = .returned (.tuple #[.slice U n u, .slice V n v, .bool ok]) ∧ us.length = n ∧ vs.length = n ∧ n ≤ 64 ∧ RdI w' w'.heap.size U us ∧ RdI w' w'.heap.size V vs ∧ (∀ x ∈ us, InI x) ∧ (∀ x ∈ vs, InI x) ∧
      bndV c no us vs = (N, ok) ∧ (ok = true ↔ GoodP c no) ∧ (ok = true → BoundP c no us vs ∧ N = us.sum + vs.sum) ∧ Below w.heap.size w w' := by
  rcases h with ⟨⟨hG, U, u, V, v, rfl, hU, hV⟩ | ⟨hn, rfl⟩, hb⟩
  · have e1 : (rowN c no).length = c.length := rowN_len
    have e2 : (colN c no).length = c.length := colN_len
    have hB := good_bound hG
    refine ⟨rowN c no, colN c no, U, V, c.length, u, v, true, _, rfl, e1, e2, hP.1, ?_, ?_, fun x hx => ?_, fun x hx => ?_, bndV_t hB, ⟨fun _ => hG, fun _ => rfl⟩, fun _ => ⟨hB, rfl⟩, hb⟩
    · have := Reads.of_own hU
      rw [← e1] at this
      unfold RdI
      rw [e1] at this ⊢
      exact this
    · have := Reads.of_own hV
      unfold RdI
      rw [e2]
      exact this
    · obtain ⟨a, b⟩ := rowN_in hG.1 x hx
      exact ⟨by omega, by omega⟩
    · obtain ⟨a, b⟩ := colN_in hG.1 x hx
      exact ⟨by omega, by omega⟩
  · refine ⟨[], [], none, none, 0, 0, 0, false, 0, rfl, rfl, rfl, by omega, Reads.none_ w' w'.heap.size 1 none, Reads.none_ w' w'.heap.size 1 none, fun x h => by simp at h, fun x h => by simp at h, bndV_f fun hB => hn (good_nil hP hB.2.1.symm), ⟨fun h => (by cases h), fun h => absurd h hn⟩, fun h => (by cases h), hb⟩
end Go.Proofs.Ytamfhommmogknaa
