/- Lines that are made, and cleared. -/
import Derived.Test.YtamfhommmogknaaDF
import Derived.Laws.MakeOwn
import Derived.Lib.SliceRun
namespace Go.Proofs.Ytamfhommmogknaa
open Go Go.RowKit
set_option linter.unusedVariables false
set_option linter.unusedSimpArgs false
set_option maxRecDepth 100000

theorem flat2_rep (a b : Value) : ∀ (n j : Nat), (flat2 (List.replicate n (a, b)))[j]? = if j < n * 2 then some (if j % 2 = 0 then a else b) else none
  | 0, j => by simp [flat2]
  | n + 1, 0 => by simp [List.replicate_succ, flat2]
  | n + 1, 1 => by simp [List.replicate_succ, flat2]; omega
  | n + 1, j + 2 => by
    simp only [List.replicate_succ, flat2, List.getElem?_cons_succ]
    have e : (j + 2) % 2 = j % 2 := by omega
    have e2 : (j + 2 < (n + 1) * 2) = (j < n * 2) := propext ⟨fun h => by omega, fun h => by omega⟩
    simp only [flat2_rep a b n j, e, e2]
theorem made2 (a b : Value) (n : Nat) : (Array.range (n * 2)).map (#[a, b][· % (#[a, b] : Array Value).size]!) = (flat2 (List.replicate n (a, b))).toArray := by
  apply Array.ext'
  apply List.ext_getElem?
  intro j
  rw [flat2_rep]
  by_cases h : j < n * 2
  · rw [if_pos h]
    have h2 : j % 2 = 0 ∨ j % 2 = 1 := by omega
    rcases h2 with h2 | h2
    · simp [h, h2]
    · simp [h, h2]
  · rw [if_neg h]
    simp [h]
theorem cell_all {w : World} {g : Nat} {t : TypeId} {cs : Array Value} (h : Blk w g t cs) (j : Nat) (hj : j < cs.size) : (w.cell? ⟨g, 0 + j, none⟩).isSome = true := by
  rw [Nat.zero_add, h.cell j, Array.getElem?_eq_getElem hj]; rfl
def putAll : Array Value → Nat → List Value → Array Value
  | cs, _, [] => cs
  | cs, o, v :: vs => putAll (cs.setIfInBounds o v) (o + 1) vs
theorem putAll_get : ∀ (vs : List Value) (cs : Array Value) (o j : Nat), (putAll cs o vs)[j]? = if o ≤ j ∧ j < o + vs.length ∧ j < cs.size then vs[j - o]? else cs[j]?
  | [], cs, o, j => by simp [putAll]; omega
  | v :: vs, cs, o, j => by
    simp only [putAll]
    rw [putAll_get vs _ (o + 1) j]
    simp only [Array.size_setIfInBounds, List.length_cons]
    by_cases h : j = o
    · subst h
      rw [if_neg (by omega)]
      by_cases hs : j < cs.size
      · rw [if_pos (by omega)]; simp [hs]
      · rw [if_neg (by omega)]; simp [hs]
    · by_cases h2 : o + 1 ≤ j ∧ j < o + 1 + vs.length ∧ j < cs.size
      · rw [if_pos h2, if_pos (by omega)]
        rw [show j - o = (j - (o + 1)) + 1 by omega]
        rfl
      · rw [if_neg h2, if_neg (by omega), Array.getElem?_setIfInBounds_ne (by omega)]
theorem putAll_full {cs : Array Value} {vs : List Value} (h : vs.length = cs.size) : putAll cs 0 vs = vs.toArray := by
  apply Array.ext'
  apply List.ext_getElem?
  intro j
  have := putAll_get vs cs 0 j
  simp only [Array.getElem?_toList, this]
  by_cases hj : j < cs.size
  · rw [if_pos (by omega)]; simp
  · rw [if_neg (by omega), Array.getElem?_eq_none (by omega)]
    simp; omega
theorem Blk.putAll' {g : Nat} {t : TypeId} : ∀ (vs : List Value) (o : Nat) (w : World) (cs : Array Value), Blk w g t cs → Blk (w.setCells g o vs) g t (putAll cs o vs)
  | [], o, w, cs, h => h
  | v :: vs, o, w, cs, h => Blk.putAll' vs (o + 1) _ _ (h.put o v rfl)
theorem Mut.sets {g : Nat} : ∀ (vs : List Value) (o : Nat) (w w' : World), Mut g w w' → Mut g w (w'.setCells g o vs)
  | [], o, w, w', h => h
  | v :: vs, o, w, w', h => Mut.sets vs (o + 1) w _ (h.set o v)
abbrev noLine : Int × Bool := (0, false)
theorem lines_rep (n : Nat) : (List.replicate n noLine).map lineV = List.replicate n (.int .i64 0, .bool false) := by rw [List.map_replicate]; rfl
theorem info_L : (Try.prog.info? 48).map (fun i => (i.zero, i.size, i.bytes)) = some (some (.agg #[.int .i64 0, .bool false]), 2, 16) := by kernel_rfl
/-- make([]line, n). -/
theorem make_lines {ops : Array Oper} {o : Oper} {rest : List Oper} {a : Act} {Q : Exit → Act → World → Prop} {w : World} {n : Nat} (hg : o.guard = none) (l : Operand) (hop : o.op = Op.makeSlice 45 l l) (hl : a.eval l = .int .i64 (n : Int)) (hn : n ≤ 70)
    (hK : ∀ w', LinesAt w' w.heap.size (List.replicate n noLine) → Below w.heap.size w w' → w'.heap.size = w.heap.size + 1 → wpList Try.prog ops Q rest (a.put o.dst (.slice (some ⟨w.heap.size, 0, none⟩) n n)) w') :
    wpList Try.prog ops Q (o :: rest) a w := by
  obtain ⟨ii, hii, hiz⟩ := Option.map_eq_some_iff.1 info_L
  simp only [Prod.mk.injEq] at hiz
  obtain ⟨z1, z2, z3⟩ := hiz
  have hr := run_make (P := Try.prog) w 45 48 ii _ Try.underlying45 hii z1 .i64 .i64 (n : Int) (n : Int) (by omega) (Int.le_refl _) (by rw [z3]; omega) (by omega)
  simp only [Int.toNat_natCast, z2] at hr
  have hw : madeCells (Value.agg #[.int .i64 0, .bool false]).cells (n * 2) = (flat2 ((List.replicate n noLine).map lineV)).toArray := by
    rw [lines_rep]
    exact made2 _ _ n
  rw [hw] at hr
  refine wpList_plain hg fun K hK' => ?_
  unfold Oper.wp
  simp [execOp, hop, hl, hr, Result.andThen]
  exact hK' _ _ (hK _ (by unfold LinesAt; rw [List.map_replicate]; exact Blk.new _ _ _) (bl_alloc (Below.refl _ _) _) (by simp))
theorem flat2_one (n : Nat) (a b : Value) (ha : a.oneCell' = true) (hb : b.oneCell' = true) : ∀ v ∈ flat2 (List.replicate n (a, b)), v.oneCell' = true := by
  induction n with
  | zero => intro v hv; simp [flat2] at hv
  | succ n ih =>
    intro v hv
    simp only [List.replicate_succ, flat2, List.mem_cons] at hv
    rcases hv with rfl | rfl | hv
    · exact ha
    · exact hb
    · exact ih v hv
/-- clear(lines). -/
theorem run_clearL {w : World} {g n c : Nat} {ls : List (Int × Bool)} (ty : TypeId) (h : LinesAt w g ls) (hn : ls.length = n) :
    ∃ w', (Builtin.clear_ #[45] ty #[.slice (some ⟨g, 0, none⟩) n c]).run Try.prog w = .ok (.tuple #[]) w' ∧ LinesAt w' g (List.replicate n noLine) ∧ Mut g w w' := by
  have hv : ∀ w, (zeroValue 48).run Try.prog w = .ok (.agg #[.int .i64 0, .bool false]) w := fun w => by kernel_rfl
  have hsz : ((flat2 (ls.map lineV)).toArray).size = n * 2 := by simp [flat2_length, hn]
  cases n with
  | zero =>
    refine ⟨w, ?_, ?_, Mut.refl _ _⟩
    · simp [Builtin.clear_, run_underlying Try.underlying45]
    · have : ls = [] := List.length_eq_zero_iff.1 hn
      rw [this] at h
      exact h
  | succ m =>
    have hzc : (Builtin.zeroCells (Value.agg #[.int .i64 0, .bool false]).cells (m + 1)).toList = flat2 (List.replicate (m + 1) (.int .i64 0, .bool false)) := by
      have := congrArg Array.toList (made2 (.int .i64 0) (.bool false) (m + 1))
      exact this
    have hlen : (flat2 (List.replicate (m + 1) ((Value.int .i64 0, Value.bool false) : Value × Value))).length = (m + 1) * 2 := by rw [flat2_length]; simp
    have hst := run_storeCells_cells (P := Try.prog) g 0 (flat2 (List.replicate (m + 1) (.int .i64 0, .bool false))) 0 w
      (fun j hj => by have := cell_all h j (by rw [hsz, ← hlen]; exact hj); simpa using this) (fun j hj => Blk.frozen h _) (flat2_one _ _ _ rfl rfl)
    refine ⟨w.setCells g 0 (flat2 (List.replicate (m + 1) (.int .i64 0, .bool false))), ?_, ?_, Mut.sets _ _ _ _ (Mut.refl _ _)⟩
    · simp only [Nat.add_zero] at hst
      simp [Builtin.clear_, run_underlying Try.underlying45, hv, hzc, hst]
    · have hb := Blk.putAll' (flat2 (List.replicate (m + 1) (.int .i64 0, .bool false))) 0 w _ h
      rw [putAll_full (by rw [hlen, hsz])] at hb
      unfold LinesAt
      rw [lines_rep]
      exact hb
end Go.Proofs.Ytamfhommmogknaa
