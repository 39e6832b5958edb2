/- How a copy of an instance grows: plain laws of memory. -/
import Derived.Test.YteddbdmddgmicaaDoorIO
namespace Go.Proofs.YteddbdmddgmicaaDoor
open Go Go.RowKit
set_option linter.unusedVariables false
set_option linter.unusedSimpArgs false
set_option maxRecDepth 100000

/-- The copy, as its rows are copied one by one. -/
structure CpR (wr w : World) (B : Nat) (I : IData) (D1 : Option Addr) (d1 : Nat) (D2 : Option Addr) (d2 : Nat) (D3 : Option Addr) (d3 : Nat) (i : Nat) (us : List Value) (j : Nat) (ws : List (Value × Value)) : Prop where
  len : us.length = I.cost.length
  row : wr.ownsRow (w.heap.size + 3) 53 1 (.slice D2 I.cost.length d2) I.cost.length us
  new : ∀ (k : Nat) (r : List Int) (u : Value), I.cost[k]? = some r → us[k]? = some u → k < i → wr.ownsRow (w.heap.size + 3) 2 1 u r.length (r.map (Value.int .i64))
  old : ∀ (k : Nat) (r : List Int) (u : Value), I.cost[k]? = some r → us[k]? = some u → i ≤ k → HdAt wr B u r
  its : OwnP wr (w.heap.size + 3) 52 (.slice D1 I.items.length d1) I.items
  wlen : ws.length = I.sets.length
  set_ : wr.ownsRow (w.heap.size + 3) 56 2 (.slice D3 I.sets.length d3) I.sets.length (flat2 ws)
  fst : ∀ (k : Nat) (p : Int × List Int) (u : Value × Value), I.sets[k]? = some p → ws[k]? = some u → u.1 = .int .i64 p.1
  snew : ∀ (k : Nat) (p : Int × List Int) (u : Value × Value), I.sets[k]? = some p → ws[k]? = some u → k < j → wr.ownsRow (w.heap.size + 3) 3 1 u.2 p.2.length (p.2.map (Value.int .i64))
  sold : ∀ (k : Nat) (p : Int × List Int) (u : Value × Value), I.sets[k]? = some p → ws[k]? = some u → j ≤ k → HdAt wr B u.2 p.2
  blk : Blk wr (w.heap.size + 2) 33 #[.int .i64 I.kind, .int .i64 I.cap, .slice D1 I.items.length d1, .slice D2 I.cost.length d2, .int .i64 I.size, .slice D3 I.sets.length d3]
  res : Blk wr (w.heap.size + 1) 33 #[.int .i64 0, .int .i64 0, .slice none 0 0, .slice none 0 0, .int .i64 0, .slice none 0 0]
  b : Below w.heap.size w wr
  bd : B ≤ w.heap.size
section
variable {wr wq w : World} {B : Nat} {I : IData} {D1 D2 D3 : Option Addr} {d1 d2 d3 i j : Nat} {us : List Value} {ws : List (Value × Value)}
theorem CpR.below (h : CpR wr w B I D1 d1 D2 d2 D3 d3 i us j ws) (hb : Below wr.heap.size wr wq) : CpR wq w B I D1 d1 D2 d2 D3 d3 i us j ws := by
  have hB : B ≤ wr.heap.size := Nat.le_trans h.bd h.b.size
  exact ⟨h.len, own_below h.row hb, fun k r u a b c => own_below (h.new k r u a b c) hb, fun k r u a b c => (h.old k r u a b c).keep (Alike.of_below hb hB), h.its.below hb, h.wlen, own_below h.set_ hb, h.fst,
    fun k p u a b c => own_below (h.snew k p u a b c) hb, fun k p u a b c => (h.sold k p u a b c).keep (Alike.of_below hb hB), h.blk.below hb, h.res.below hb, bl_step h.b hb, h.bd⟩
theorem CpR.size (h : CpR wr w B I D1 d1 D2 d2 D3 d3 i us j ws) : w.heap.size + 3 ≤ wr.heap.size := by have := h.blk.lt; omega
theorem ne_own {w : World} {base : Nat} {e : TypeId} {size n g : Nat} {v : Value} {xs : List Value} (h : w.ownsRow base e size v n xs) (hg : g < base) : v.ownBlock ≠ some g := fun e => by have := own_base h _ e; omega
theorem hd_set {w : World} {B : Nat} {u x : Value} {r : List Int} (h : HdAt w B u r) {p : Addr} (hp : B ≤ p.block) : HdAt (w.setCell p x) B u r :=
  h.keep (fun q hq => World.cell?_setCell_other w p q x (fun e => by subst e; omega))
/-- One row more. -/
theorem CpR.step (h : CpR wr w B I D1 d1 D2 d2 D3 d3 i us j ws) {g : Nat} {r : List Int} {v : Value} (hr : I.cost[i]? = some r) (hD : D2 = some ⟨g, 0, none⟩) (hv : wr.ownsRow (w.heap.size + 3) 2 1 v r.length (r.map (Value.int .i64)))  :
    CpR (wr.setCell ⟨g, i, none⟩ v) w B I D1 d1 D2 d2 D3 d3 (i + 1) (us.set i v) j ws := by
  have hi : i < I.cost.length := (List.getElem?_eq_some_iff.1 hr).1
  have hrow := h.row
  rw [hD] at hrow
  have hg0 : w.heap.size + 3 ≤ g := own_base hrow g rfl
  have hB : B ≤ g := by have := h.bd; omega
  have ap : ∀ {e size n} {u : Value} {xs : List Value}, wr.ownsRow (w.heap.size + 3) e size u n xs → 53 ≠ e → u.ownBlock ≠ some g := fun hu hne => own_apart hrow hu hne rfl
  refine ⟨by rw [List.length_set, h.len], by rw [hD]; exact own_store hrow i (by omega) v, ?_, ?_, own_far h.its (ap h.its (by decide)) v, h.wlen, own_far h.set_ (ap h.set_ (by decide)) v, h.fst,
    fun k p u a b c => own_far (h.snew k p u a b c) (ap (h.snew k p u a b c) (by decide)) v, fun k p u a b c => hd_set (h.sold k p u a b c) hB,
    h.blk.far (by show ¬ _ = g; omega) v, h.res.far (by show ¬ _ = g; omega) v, bl_set h.b (by show _ ≤ g; omega) v, h.bd⟩
  · intro k r' u a b c
    by_cases e : k = i
    · subst e
      rw [hr] at a
      injection a with a
      subst a
      rw [List.getElem?_set_self (by rw [h.len]; exact hi)] at b
      injection b with b
      subst b
      exact own_far hv (ap hv (by decide)) v
    · rw [List.getElem?_set_ne (fun h => e h.symm)] at b
      have := h.new k r' u a b (by omega)
      exact own_far this (ap this (by decide)) v
  · intro k r' u a b c
    rw [List.getElem?_set_ne (by omega)] at b
    exact hd_set (h.old k r' u a b (by omega)) hB
theorem flat2_set : ∀ (ws : List (Value × Value)) (j : Nat) (v : Value) (u : Value × Value), ws[j]? = some u → (flat2 ws).set (j * 2 + 1) v = flat2 (ws.set j (u.1, v))
  | [], j, v, u, h => by simp at h
  | q :: r, 0, v, u, h => by simp at h; subst h; rfl
  | q :: r, j + 1, v, u, h => by
    have ih := flat2_set r j v u (by simpa using h)
    rw [show (j + 1) * 2 + 1 = j * 2 + 1 + 1 + 1 by omega]
    simp only [flat2, List.set_cons_succ, ih]
theorem CpR.sstep (h : CpR wr w B I D1 d1 D2 d2 D3 d3 i us j ws) {g : Nat} {p : Int × List Int} {v : Value} {u0 : Value × Value} (hr : I.sets[j]? = some p) (hu0 : ws[j]? = some u0) (hD : D3 = some ⟨g, 0, none⟩) (hv : wr.ownsRow (w.heap.size + 3) 3 1 v p.2.length (p.2.map (Value.int .i64))) (hi : i = I.cost.length) :
    CpR (wr.setCell ⟨g, j * 2 + 1, none⟩ v) w B I D1 d1 D2 d2 D3 d3 i us (j + 1) (ws.set j (u0.1, v)) := by
  have hj : j < I.sets.length := (List.getElem?_eq_some_iff.1 hr).1
  have hrow := h.set_
  rw [hD] at hrow
  have hg0 : w.heap.size + 3 ≤ g := own_base hrow g rfl
  have hB : B ≤ g := by have := h.bd; omega
  have ap : ∀ {e size n} {u : Value} {xs : List Value}, wr.ownsRow (w.heap.size + 3) e size u n xs → 56 ≠ e → u.ownBlock ≠ some g := fun hu hne => own_apart hrow hu hne rfl
  refine ⟨h.len, own_far h.row (ap h.row (by decide)) v, fun k r u a b c => own_far (h.new k r u a b c) (ap (h.new k r u a b c) (by decide)) v, fun k r u a b c => hd_set (h.old k r u a b c) hB, own_far h.its (ap h.its (by decide)) v,
    by rw [List.length_set, h.wlen], ?_, ?_, ?_, ?_,
    h.blk.far (by show ¬ _ = g; omega) v, h.res.far (by show ¬ _ = g; omega) v, bl_set h.b (by show _ ≤ g; omega) v, h.bd⟩
  · rw [← flat2_set ws j v u0 hu0, hD]; exact own_store hrow (j * 2 + 1) (by omega) v
  · intro k p' u a b
    by_cases e : k = j
    · subst e
      rw [List.getElem?_set_self (by rw [h.wlen]; exact hj)] at b
      injection b with b
      subst b
      exact h.fst k p' u0 a hu0
    · rw [List.getElem?_set_ne (fun h => e h.symm)] at b
      exact h.fst k p' u a b
  · intro k p' u a b c
    by_cases e : k = j
    · subst e
      rw [hr] at a
      injection a with a
      subst a
      rw [List.getElem?_set_self (by rw [h.wlen]; exact hj)] at b
      injection b with b
      subst b
      exact own_far hv (ap hv (by decide)) v
    · rw [List.getElem?_set_ne (fun h => e h.symm)] at b
      have := h.snew k p' u a b (by omega)
      exact own_far this (ap this (by decide)) v
  · intro k p' u a b c
    rw [List.getElem?_set_ne (by omega)] at b
    exact hd_set (h.sold k p' u a b (by omega)) hB
theorem CpR.start {z : World} {a1 a2 a3 : Value} (hl : us.length = I.cost.length) (h2 : z.ownsRow (w.heap.size + 3) 53 1 (.slice D2 I.cost.length d2) I.cost.length us) (h2o : ∀ (k : Nat) (r : List Int) (u : Value), I.cost[k]? = some r → us[k]? = some u → HdAt z B u r)
    (h1 : OwnP z (w.heap.size + 3) 52 (.slice D1 I.items.length d1) I.items) (hw : ws.length = I.sets.length) (h3 : z.ownsRow (w.heap.size + 3) 56 2 (.slice D3 I.sets.length d3) I.sets.length (flat2 ws))
    (h3o : ∀ (k : Nat) (p : Int × List Int) (u : Value × Value), I.sets[k]? = some p → ws[k]? = some u → u.1 = .int .i64 p.1 ∧ HdAt z B u.2 p.2)
    (hb : Blk z (w.heap.size + 2) 33 #[.int .i64 I.kind, .int .i64 I.cap, a1, a2, .int .i64 I.size, a3]) (hr : Blk z (w.heap.size + 1) 33 #[.int .i64 0, .int .i64 0, .slice none 0 0, .slice none 0 0, .int .i64 0, .slice none 0 0]) (hbl : Below w.heap.size w z) (hB : B ≤ w.heap.size) :
    CpR (((z.setCell ⟨w.heap.size + 2, 2, none⟩ (.slice D1 I.items.length d1)).setCell ⟨w.heap.size + 2, 3, none⟩ (.slice D2 I.cost.length d2)).setCell ⟨w.heap.size + 2, 5, none⟩ (.slice D3 I.sets.length d3)) w B I D1 d1 D2 d2 D3 d3 0 us 0 ws := by
  have f3 : ∀ {e size n} {v : Value} {xs : List Value} {z : World}, z.ownsRow (w.heap.size + 3) e size v n xs → ∀ (j : Nat) (x : Value), (z.setCell ⟨w.heap.size + 2, j, none⟩ x).ownsRow (w.heap.size + 3) e size v n xs := fun h j x => own_far h (ne_own h (by show w.heap.size + 2 < _; omega)) x
  have g3 : ∀ {u : Value} {r : List Int} {z : World}, HdAt z B u r → ∀ (j : Nat) (x : Value), HdAt (z.setCell ⟨w.heap.size + 2, j, none⟩ x) B u r := fun h j x => hd_set h (by show B ≤ w.heap.size + 2; omega)
  exact ⟨hl, f3 (f3 (f3 h2 _ _) _ _) _ _, fun k r u a b c => absurd c (by omega), fun k r u a b c => g3 (g3 (g3 (h2o k r u a b) _ _) _ _) _ _, f3 (f3 (f3 h1 _ _) _ _) _ _, hw, f3 (f3 (f3 h3 _ _) _ _) _ _, fun k p u a b => (h3o k p u a b).1,
    fun k p u a b c => absurd c (by omega), fun k p u a b c => g3 (g3 (g3 (h3o k p u a b).2 _ _) _ _) _ _,
    ((hb.put 2 _ rfl).put 3 _ rfl).put 5 _ rfl, ((hr.far (by show ¬ _ = w.heap.size + 2; omega) _).far (by show ¬ _ = w.heap.size + 2; omega) _).far (by show ¬ _ = w.heap.size + 2; omega) _,
    bl_set (bl_set (bl_set hbl (by show _ ≤ w.heap.size + 2; omega) _) (by show _ ≤ w.heap.size + 2; omega) _) (by show _ ≤ w.heap.size + 2; omega) _, hB⟩
theorem OwnI.set {base : Nat} {ti ts : TypeId} {w : World} (h : OwnI w base ti ts I D1 d1 D2 d2 D3 d3) {p : Addr} (hp : p.block < base) (x : Value) : OwnI (w.setCell p x) base ti ts I D1 d1 D2 d2 D3 d3 :=
  ⟨h.items.set hp x, h.cost.set hp x, h.sets.set hp x, h.in_⟩
theorem CpR.done (h : CpR wr w B I D1 d1 D2 d2 D3 d3 I.cost.length us I.sets.length ws) (hin : IIn I) : OwnI wr (w.heap.size + 3) 52 56 I D1 d1 D2 d2 D3 d3 :=
  ⟨h.its, ⟨us, h.len, h.row, fun k r u a b => h.new k r u a b (List.getElem?_eq_some_iff.1 a).1⟩, ⟨ws, h.wlen, h.set_, fun k p u a b => ⟨h.fst k p u a b, h.snew k p u a b (List.getElem?_eq_some_iff.1 a).1⟩⟩, hin⟩
end
end Go.Proofs.YteddbdmddgmicaaDoor
