/- Two rows of numbers that lie apart; what Prices and Bound hand back, as values. -/
import Derived.Test.YtamfhommmogknaaDU
import Derived.Test.YtamfhommmogknaaIS
namespace Go.Proofs.Ytamfhommmogknaa
open Go Go.RowKit
set_option linter.unusedVariables false
set_option linter.unusedSimpArgs false
set_option maxRecDepth 100000

theorem own_sz {w : World} {base : Nat} {e : TypeId} {s n : Nat} {v : Value} {xs : List Value} (h : w.ownsRow base e s v n xs) (k : Nat) (hk : v.ownBlock = some k) : k < w.heap.size := by
  rcases h.2 with ⟨rfl, _⟩ | ⟨g, cap, cur, rfl, _, hh, _⟩
  · simp [Value.ownBlock] at hk
  · have e3 : g = k := by simpa [Value.ownBlock] using hk
    have := (Array.getElem?_eq_some_iff.1 hh).1
    omega
theorem step_run {P : Program} {ops : Array Oper} {o : Oper} {a : Act} {K : Act → World → Prop} {Q : Exit → Act → World → Prop} {E : Prop} {w w' : World} {v' : Value} (hgd : o.guard = none) (s x : Operand) (t : TypeId)
    (ho : o.op = .call { callee := .builtin .append, args := #[s, x], argTypes := #[t, t] }) (hrun : (Builtin.append_ #[t, t] o.type #[a.eval s, a.eval x]).run P w = .ok v' w') (h : K (a.put o.dst v') w') :
    if Region.wanted o (yielded ops a.tmps) = true then Oper.wp P o a w K Q else E := by
  have hw : Region.wanted o (yielded ops a.tmps) = true := by simp [Region.wanted, hgd]
  rw [if_pos hw]
  unfold Oper.wp execOp
  simp only [ho, resolve, invoke, builtin, Sem.run_bind, Sem.run_pure, Result.andThen_ok, List.map_toArray, List.map_cons, List.map_nil, hrun]
  exact h
theorem reads1 {w : World} {g : Nat} {t : TypeId} {y : Value} (h : Blk w g t #[y]) : Reads w (g + 1) 1 (some ⟨g, 0, none⟩) 1 [y] :=
  ⟨rfl, fun _ => ⟨g, 0, rfl, by omega, fun j u hu => by
    have hj : j = 0 := by have := (List.getElem?_eq_some_iff.1 hu).1; simp at this; omega
    subst hj
    simp at hu
    subst hu
    exact h.cell 0⟩⟩
/-- Two rows of numbers that lie apart, made behind a world. -/
structure TwoR (w0 w : World) (R C : Value) (rows cols : List Int) : Prop where
  r : w.ownsRow w0.heap.size 2 1 R rows.length (rows.map (Value.int .i64))
  c : w.ownsRow w0.heap.size 2 1 C cols.length (cols.map (Value.int .i64))
  ap : ∀ g, R.ownBlock = some g → C.ownBlock ≠ some g
  bl : Below w0.heap.size w0 w
section
variable {w0 w w' : World} {R C : Value} {rows cols : List Int}
theorem TwoR.below (h : TwoR w0 w R C rows cols) (hb : Below w.heap.size w w') : TwoR w0 w' R C rows cols := ⟨own_below h.r hb, own_below h.c hb, h.ap, bl_step h.bl hb⟩
theorem TwoR.start (h : Below w0.heap.size w0 w) : TwoR w0 w (.slice none 0 0) (.slice none 0 0) [] [] := ⟨own_nil _ _ _ _, own_nil _ _ _ _, fun g h => by simp [Value.ownBlock] at h, h⟩
theorem TwoR.flip (h : TwoR w0 w R C rows cols) : TwoR w0 w C R cols rows := ⟨h.c, h.r, fun g h1 h2 => h.ap g h2 h1, h.bl⟩
theorem TwoR.runR (h : TwoR w0 w R C rows cols) {g : Nat} {x : Int} {t : TypeId} (hb : Blk w g t #[.int .i64 x]) (hl : rows.length ≤ 100) {ty : TypeId} :
    ∃ D d X, (Builtin.append_ #[29, 29] ty #[R, .slice (some ⟨g, 0, none⟩) 1 1]).run Try.prog w = .ok (.slice D (rows.length + 1) d) X ∧ TwoR w0 X (.slice D (rows.length + 1) d) C (rows ++ [x]) cols ∧ w.grownBy X R.ownBlock := by
  obtain ⟨v', X, hrun, ho, hg, hat⟩ := run_app (t := 29) (ty := ty) (c := 1) Try.underlying29 info_I rfl (by decide) h.r (reads1 hb) (fun u hu => by simp at hu; subst hu; rfl) (by unfold maxLen; omega) (by omega) h.bl.size
  obtain ⟨D, d, rfl, _⟩ := own_slice ho
  have hc : X.ownsRow w0.heap.size 2 1 C cols.length (cols.map (Value.int .i64)) := h.c.kept hg (by
    rcases hv : C.ownBlock with _ | k
    · exact .inl rfl
    · exact .inr (fun e => h.ap k e.symm hv))
  refine ⟨D, d, X, hrun, ⟨by simpa using ho, hc, fun g' hg' hc' => ?_, bl_grown h.bl hg (fun k hk => own_base h.r k hk)⟩, hg⟩
  rcases hat with e | e
  · exact h.ap g' (by rw [← e]; exact hg') hc'
  · rw [hg'] at e
    obtain rfl := Option.some.inj e
    have := own_sz h.c _ hc'
    omega
theorem TwoR.runC (h : TwoR w0 w R C rows cols) {g : Nat} {x : Int} {t : TypeId} (hb : Blk w g t #[.int .i64 x]) (hl : cols.length ≤ 100) {ty : TypeId} :
    ∃ D d X, (Builtin.append_ #[29, 29] ty #[C, .slice (some ⟨g, 0, none⟩) 1 1]).run Try.prog w = .ok (.slice D (cols.length + 1) d) X ∧ TwoR w0 X R (.slice D (cols.length + 1) d) rows (cols ++ [x]) ∧ w.grownBy X C.ownBlock := by
  obtain ⟨D, d, X, h1, h2, h3⟩ := h.flip.runR hb hl (ty := ty)
  exact ⟨D, d, X, h1, h2.flip, h3⟩
theorem TwoR.setR {g n u : Nat} (h : TwoR w0 w (.slice (some ⟨g, 0, none⟩) n u) C rows cols) (hr : rows.length = n) {i : Nat} (hi : i < n) (z : Int) : TwoR w0 (w.setCell ⟨g, i, none⟩ (.int .i64 z)) (.slice (some ⟨g, 0, none⟩) n u) C (rows.set i z) cols := by
  subst hr
  refine ⟨?_, own_far h.c (p := ⟨g, i, none⟩) (h.ap g rfl) _, h.ap, bl_set h.bl (p := ⟨g, i, none⟩) (own_base h.r g rfl) _⟩
  have := own_store h.r i (by omega) (.int .i64 z)
  rw [List.length_set, List.map_set]
  exact this
theorem TwoR.setC {g n u : Nat} (h : TwoR w0 w R (.slice (some ⟨g, 0, none⟩) n u) rows cols) (hr : cols.length = n) {i : Nat} (hi : i < n) (z : Int) : TwoR w0 (w.setCell ⟨g, i, none⟩ (.int .i64 z)) R (.slice (some ⟨g, 0, none⟩) n u) rows (cols.set i z) := (h.flip.setR hr hi z).flip
theorem TwoR.cellR {g n u : Nat} {i : Nat} {a : Int} (h : TwoR w0 w (.slice (some ⟨g, 0, none⟩) n u) C rows cols) (hr : rows.length = n) (ha : rows[i]? = some a) : w.cell? ⟨g, i, none⟩ = some (.int .i64 a) ∧ w.frozen? ⟨g, i, none⟩ = false := by
  subst hr
  have := own_cell1 h.r (List.getElem?_eq_some_iff.1 ha).1 ha
  exact ⟨this.1, this.2.1⟩
theorem TwoR.cellC {g n u : Nat} {i : Nat} {a : Int} (h : TwoR w0 w R (.slice (some ⟨g, 0, none⟩) n u) rows cols) (hr : cols.length = n) (ha : cols[i]? = some a) : w.cell? ⟨g, i, none⟩ = some (.int .i64 a) ∧ w.frozen? ⟨g, i, none⟩ = false := h.flip.cellR hr ha
theorem TwoR.newR (h : TwoR w0 w R C rows cols) : ∀ k, w.heap.size ≤ k → some k ≠ R.ownBlock := fun k hk e => by
  have := own_sz h.r k e.symm
  omega
theorem TwoR.newC (h : TwoR w0 w R C rows cols) : ∀ k, w.heap.size ≤ k → some k ≠ C.ownBlock := h.flip.newR
theorem TwoR.sliceR {n : Nat} (h : TwoR w0 w R C rows cols) (hr : rows.length = n) : ∃ A a, R = .slice A n a := by
  obtain ⟨A, a, e, _⟩ := own_slice h.r
  exact ⟨A, a, by rw [e, hr]⟩
theorem TwoR.sliceC {n : Nat} (h : TwoR w0 w R C rows cols) (hr : cols.length = n) : ∃ A a, C = .slice A n a := h.flip.sliceR hr
theorem TwoR.form {U : Option Addr} {n u : Nat} (h : TwoR w0 w (.slice U n u) C rows cols) (hr : rows.length = n) (h0 : 0 < n) : ∃ g, U = some ⟨g, 0, none⟩ := by
  subst hr
  obtain ⟨g, e, _⟩ := own_lt h.r h0
  exact ⟨g, e⟩
theorem TwoR.formC {U : Option Addr} {n u : Nat} (h : TwoR w0 w R (.slice U n u) rows cols) (hr : cols.length = n) (h0 : 0 < n) : ∃ g, U = some ⟨g, 0, none⟩ := h.flip.form hr h0
theorem TwoR.rdR {U : Option Addr} {n u : Nat} (h : TwoR w0 w (.slice U n u) C rows cols) (hr : rows.length = n) : RdI w w.heap.size U rows := by
  subst hr
  exact Reads.of_own h.r
theorem TwoR.rdC {U : Option Addr} {n u : Nat} (h : TwoR w0 w R (.slice U n u) rows cols) (hr : cols.length = n) : RdI w w.heap.size U cols := h.flip.rdR hr
end
open Classical in
/-- The bound, as a value. -/
noncomputable def bndV (c : List (List Int)) (no : List (List Bool)) (rows cols : List Int) : Int × Bool := if BoundP c no rows cols then (rows.sum + cols.sum, true) else (0, false)
theorem bndV_t {c : List (List Int)} {no : List (List Bool)} {rows cols : List Int} (h : BoundP c no rows cols) : bndV c no rows cols = (rows.sum + cols.sum, true) := by unfold bndV; rw [if_pos h]
theorem bndV_f {c : List (List Int)} {no : List (List Bool)} {rows cols : List Int} (h : ¬ BoundP c no rows cols) : bndV c no rows cols = (0, false) := by unfold bndV; rw [if_neg h]
theorem BoundPost.val {w w' : World} {c : List (List Int)} {no : List (List Bool)} {rows cols : List Int} {e : Ending} (h : BoundPost w c no rows cols e w') : e = .returned (.tuple #[.int .i64 (bndV c no rows cols).1, .bool (bndV c no rows cols).2]) ∧ Below w.heap.size w w' := by
  rcases h with ⟨⟨h1, rfl⟩ | ⟨h1, rfl⟩, h2⟩
  · exact ⟨by rw [bndV_t h1], h2⟩
  · exact ⟨by rw [bndV_f h1], h2⟩
theorem lineC_in {c : List (List Int)} {no : List (List Bool)} (hP : ChkP c no) (k : Nat) : ∀ i, -4294967296 ≤ (lineC c no (rowN c no) k i).1 ∧ (lineC c no (rowN c no) k i).1 ≤ 4294967296
  | 0 => by
    show (-4294967296 : Int) ≤ 0 ∧ (0 : Int) ≤ 4294967296
    decide
  | i + 1 => by
    simp only [lineC]
    split
    · exact lineC_in hP k i
    · refine seeL_in (P := fun z => -4294967296 ≤ z ∧ z ≤ 4294967296) ?_ (lineC_in hP k i)
      have h1 : InM ((c.getD i []).getD k 0) := by
        unfold List.getD
        rcases hr : c[i]? with _ | r
        · exact ⟨by simp, by simp⟩
        · simp only [Option.getD_some]
          rcases hx : r[k]? with _ | x
          · exact ⟨by simp, by simp⟩
          · exact (hP.2.2 i r hr).2.2 x (List.mem_of_getElem? hx)
      have h2 : InM ((rowN c no).getD i 0) := by
        unfold List.getD
        rcases hx : (rowN c no)[i]? with _ | x
        · exact ⟨by simp, by simp⟩
        · exact rowN_in hP x (List.mem_of_getElem? hx)
      obtain ⟨a, b⟩ := h1
      obtain ⟨d, e⟩ := h2
      omega
theorem colN_in {c : List (List Int)} {no : List (List Bool)} (hP : ChkP c no) : ∀ x ∈ colN c no, -4294967296 ≤ x ∧ x ≤ 4294967296 := by
  intro x hx
  rw [colN_num] at hx
  simp only [numG, stG, List.map_map, List.mem_map, List.mem_range, Function.comp] at hx
  obtain ⟨j, hj, rfl⟩ := hx
  rw [if_pos hj]
  exact lineC_in hP _ _
/-- What Prices hands back: two rows of the same length that lie apart. -/
theorem prices_two {w w' : World} {c : List (List Int)} {no : List (List Bool)} {e : Ending} (h : PricesPost w c no e w' ∧ ApartR e) (h64 : c.length ≤ 64) :
    ∃ (us vs : List Int) (U V : Option Addr) (n u v : Nat) (ok : Bool), e = .returned (.tuple #[.slice U n u, .slice V n v, .bool ok]) ∧ us.length = n ∧ vs.length = n ∧ n ≤ 64 ∧ TwoR w w' (.slice U n u) (.slice V n v) us vs ∧ (∀ x ∈ us, -4294967296 ≤ x ∧ x ≤ 4294967296) ∧ ∀ x ∈ vs, -4294967296 ≤ x ∧ x ≤ 4294967296 := by
  obtain ⟨⟨⟨hG, U, u, V, v, rfl, hU, hV⟩ | ⟨hn, rfl⟩, hb⟩, hA⟩ := h
  · have e1 : (rowN c no).length = c.length := rowN_len
    have e2 : (colN c no).length = c.length := colN_len
    refine ⟨rowN c no, colN c no, U, V, c.length, u, v, true, rfl, e1, e2, h64, ⟨by rw [e1]; exact hU, by rw [e2]; exact hV, ?_, hb⟩, fun x hx => ?_, colN_in hG.1⟩
    · rcases hA U V c.length c.length u v (.bool true) rfl with ⟨g, rfl, g', rfl, hne⟩ | ⟨h0, _⟩
      · intro k hk hk'
        simp [Value.ownBlock] at hk hk'
        omega
      · intro k hk hk'
        rw [h0] at hk
        simp [Value.ownBlock] at hk
    · obtain ⟨a, b⟩ := rowN_in hG.1 x hx
      omega
  · exact ⟨[], [], none, none, 0, 0, 0, false, rfl, rfl, rfl, by omega, TwoR.start hb, fun x h => by simp at h, fun x h => by simp at h⟩
end Go.Proofs.Ytamfhommmogknaa
