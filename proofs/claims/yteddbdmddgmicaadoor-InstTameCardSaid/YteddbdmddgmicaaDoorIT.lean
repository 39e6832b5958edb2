/- The walk of tame, part one: the number's limits, and what tame hands back. -/
import Derived.Test.YteddbdmddgmicaaDoorIR
import Derived.Test.YteddbdmddgmicaaDoorIE
namespace Go.Proofs.YteddbdmddgmicaaDoor
open Go.RowKit
set_option linter.unusedVariables false
set_option linter.unusedSimpArgs false
set_option maxRecDepth 100000

/-- A number, cut to the limits. -/
def clampR (x : Int) : Int := if x < -2147483648 then -2147483648 else if 2147483648 < x then 2147483648 else x
theorem clamp_in (x : Int) : -2147483648 ≤ clampR x ∧ clampR x ≤ 2147483648 := by unfold clampR; split <;> (try split) <;> omega
theorem clamp_any (x : Int) (w : World) : Calls Tryd.prog 18 #[.int .i64 x] w fun e w' => e = .returned (.int .i64 (clampR x)) ∧ Below w.heap.size w w' := by
  by_cases h1 : x < -2147483648
  · have e : clampR x = -2147483648 := by unfold clampR; rw [if_pos h1]
    rw [e]
    go_enter Tryd.func18, Tryd.ntmps18
    go_wp2
    go_ret
    exact ⟨rfl, Below.refl _ _⟩
  · by_cases h2 : 2147483648 < x
    · have e : clampR x = 2147483648 := by unfold clampR; rw [if_neg h1, if_pos h2]
      rw [e]
      go_enter Tryd.func18, Tryd.ntmps18
      go_wp2
      go_ret
      exact ⟨rfl, Below.refl _ _⟩
    · have e : clampR x = x := by unfold clampR; rw [if_neg h1, if_neg h2]
      rw [e]
      go_enter Tryd.func18, Tryd.ntmps18
      go_wp2
      go_ret
      exact ⟨rfl, Below.refl _ _⟩
def ClI (x : Int) : Prop := 0 ≤ x ∧ x ≤ 2147483648
/-- What tame hands back may be an instance. -/
def TameD (T : IData) (most : Nat) : Prop :=
  (T.kind = 0 ∧ ClI T.cap ∧ T.items.length ≤ most ∧ (∀ p ∈ T.items, ClI p.1 ∧ ClI p.2) ∧ T.cost = [] ∧ T.size = 0 ∧ T.sets = []) ∨
  (T.kind = 3 ∧ (0 ≤ T.size ∧ T.size ≤ 8) ∧ T.cap = 0 ∧ T.items = [] ∧ T.cost = [] ∧ T.sets.length ≤ most ∧ ∀ p ∈ T.sets, ClI p.1 ∧ risesB (-1) T.size p.2 = true ∧ p.2.length ≤ 8) ∨
  ((T.kind = 1 ∨ T.kind = 2) ∧ T.cap = 0 ∧ T.items = [] ∧ T.size = 0 ∧ T.sets = [] ∧ 1 ≤ T.cost.length ∧ (T.cost.length ≤ 1 ∨ T.cost.length < most) ∧ (∀ r ∈ T.cost, r.length = T.cost.length ∧ ∀ x ∈ r, -2147483648 ≤ x ∧ x ≤ 2147483648) ∧ (T.kind = 2 → bareFrom 0 T.cost = true))
theorem rises_in : ∀ (l : List Int) (last size : Int), risesB last size l = true → ∀ x ∈ l, last < x ∧ x < size
  | [], _, _, _, x, hx => by simp at hx
  | y :: l, last, size, h, x, hx => by
    simp [risesB] at h
    obtain ⟨h1, h2⟩ := h
    rcases List.mem_cons.1 hx with rfl | hx
    · exact ⟨by omega, by omega⟩
    · have := rises_in l y size h2 x hx
      omega
theorem cl_in {x : Int} (h : ClI x) : InI x := ⟨by have := h.1; omega, by have := h.2; omega⟩
theorem tame_in {T : IData} {most : Nat} (h : TameD T most) : IIn T := by
  rcases h with ⟨h1, h2, h3, h4, h5, h6, h7⟩ | ⟨h1, h2, h3, h4, h5, h6, h7⟩ | ⟨h1, h2, h3, h4, h5, h6, h7, h8, h9⟩
  · refine ⟨⟨by omega, by omega⟩, cl_in h2, ⟨by omega, by omega⟩, fun p hp => ⟨cl_in (h4 p hp).1, cl_in (h4 p hp).2⟩, fun r hr => ?_, fun p hp => ?_⟩
    · rw [h5] at hr; cases hr
    · rw [h7] at hp; cases hp
  · refine ⟨⟨by omega, by omega⟩, ⟨by omega, by omega⟩, ⟨by omega, by omega⟩, fun p hp => ?_, fun r hr => ?_, fun p hp => ⟨cl_in (h7 p hp).1, fun x hx => ?_⟩⟩
    · rw [h4] at hp; cases hp
    · rw [h5] at hr; cases hr
    · have := rises_in _ _ _ (h7 p hp).2.1 x hx
      exact ⟨by omega, by omega⟩
  · refine ⟨⟨by omega, by omega⟩, ⟨by omega, by omega⟩, ⟨by omega, by omega⟩, fun p hp => ?_, fun r hr x hx => ?_, fun p hp => ?_⟩
    · rw [h3] at hp; cases hp
    · have := (h8 r hr).2 x hx
      exact ⟨by omega, by omega⟩
    · rw [h5] at hp; cases hp
theorem ownR_nil (w : World) (base : Nat) (tr te : TypeId) : OwnR w base tr te (.slice none 0 0) [] := ⟨[], rfl, own_nil _ _ _ _, fun i r u hr => by simp at hr⟩
theorem ownS_nil (w : World) (base : Nat) (ts te : TypeId) : OwnS w base ts te (.slice none 0 0) [] := ⟨[], rfl, own_nil _ _ _ _, fun i r u hr => by simp at hr⟩
def TamePost (w : World) (most : Nat) (e : Ending) (w' : World) : Prop := ∃ T D1 d1 D2 d2 D3 d3, e = .returned (.agg #[.int .i64 T.kind, .int .i64 T.cap, .slice D1 T.items.length d1, .slice D2 T.cost.length d2, .int .i64 T.size, .slice D3 T.sets.length d3]) ∧ TameD T most ∧
  OwnI w' (w.heap.size + 1 + 1 + 1) 60 61 T D1 d1 D2 d2 D3 d3 ∧ Below w.heap.size w w'
theorem info_X : (Tryd.prog.info? 61).map (fun i => (i.zero, i.size, i.bytes)) = some (some (.agg #[.int .i64 0, .slice none 0 0]), 2, 32) := by kernel_rfl
/-- The variables of tame: the argument, the result, and what grows. -/
structure TmR (wr w : World) (I : IData) (A1 A2 A3 : Option Addr) (c1 c2 c3 : Nat) (k cp sz : Int) (v1 v2 v3 : Value) : Prop where
  par : Blk wr w.heap.size 26 #[.int .i64 I.kind, .int .i64 I.cap, .slice A1 I.items.length c1, .slice A2 I.cost.length c2, .int .i64 I.size, .slice A3 I.sets.length c3]
  res : Blk wr (w.heap.size + 1) 26 #[.int .i64 0, .int .i64 0, .slice none 0 0, .slice none 0 0, .int .i64 0, .slice none 0 0]
  out : Blk wr (w.heap.size + 1 + 1) 26 #[.int .i64 k, .int .i64 cp, v1, v2, .int .i64 sz, v3]
  b : Below w.heap.size w wr
section
variable {wr wq w : World} {I : IData} {A1 A2 A3 : Option Addr} {c1 c2 c3 : Nat} {k cp sz : Int} {v1 v2 v3 : Value}
theorem TmR.below (h : TmR wr w I A1 A2 A3 c1 c2 c3 k cp sz v1 v2 v3) (hb : Below wr.heap.size wr wq) : TmR wq w I A1 A2 A3 c1 c2 c3 k cp sz v1 v2 v3 := ⟨h.par.below hb, h.res.below hb, h.out.below hb, bl_step h.b hb⟩
theorem TmR.size (h : TmR wr w I A1 A2 A3 c1 c2 c3 k cp sz v1 v2 v3) : w.heap.size + 1 + 1 + 1 ≤ wr.heap.size := by have := h.out.lt; omega
theorem TmR.grow (h : TmR wr w I A1 A2 A3 c1 c2 c3 k cp sz v1 v2 v3) {e : TypeId} {s n : Nat} {v : Value} {xs : List Value} (ho : wr.ownsRow (w.heap.size + 1 + 1 + 1) e s v n xs) (hg : wr.grownBy wq v.ownBlock) : TmR wq w I A1 A2 A3 c1 c2 c3 k cp sz v1 v2 v3 := by
  have hk : ∀ k, v.ownBlock = some k → w.heap.size + 1 + 1 + 1 ≤ k := fun k hk => own_base ho k hk
  exact ⟨h.par.grown hg (fun e => by have := hk _ e.symm; omega), h.res.grown hg (fun e => by have := hk _ e.symm; omega), h.out.grown hg (fun e => by have := hk _ e.symm; omega), bl_grown h.b hg (fun k e => by have := hk k e; omega)⟩
/-- A store into what grows. -/
theorem TmR.put (h : TmR wr w I A1 A2 A3 c1 c2 c3 k cp sz v1 v2 v3) (i : Nat) (u : Value) {k' cp' sz' : Int} {z1 z2 z3 : Value} (e : (#[.int .i64 k, .int .i64 cp, v1, v2, .int .i64 sz, v3] : Array Value).setIfInBounds i u = #[.int .i64 k', .int .i64 cp', z1, z2, .int .i64 sz', z3]) :
    TmR (wr.setCell ⟨w.heap.size + 1 + 1, i, none⟩ u) w I A1 A2 A3 c1 c2 c3 k' cp' sz' z1 z2 z3 :=
  ⟨h.par.far (p := ⟨w.heap.size + 1 + 1, i, none⟩) (by simp; omega) _, h.res.far (p := ⟨w.heap.size + 1 + 1, i, none⟩) (by simp) _, h.out.put i u e, bl_set h.b (p := ⟨w.heap.size + 1 + 1, i, none⟩) (by simp; omega) _⟩
/-- append of a pair. -/
theorem TmR.runP (h : TmR wr w I A1 A2 A3 c1 c2 c3 k cp sz v1 v2 v3) {l : List (Int × Int)} (ho : OwnP wr (w.heap.size + 1 + 1 + 1) 60 v1 l) {g : Nat} {t : TypeId} {x y : Int} (hb : Blk wr g t #[.int .i64 x, .int .i64 y]) (hn : l.length ≤ 70) (ty : TypeId) :
    ∃ D d w', (Builtin.append_ #[22, 22] ty #[v1, .slice (some ⟨g, 0, none⟩) 1 1]).run Tryd.prog wr = .ok (.slice D (l.length + 1) d) w' ∧ TmR w' w I A1 A2 A3 c1 c2 c3 k cp sz v1 v2 v3 ∧ OwnP w' (w.heap.size + 1 + 1 + 1) 60 (.slice D (l.length + 1) d) (l ++ [(x, y)]) ∧ wr.grownBy w' v1.ownBlock := by
  obtain ⟨v', w', h1, h2, h3, h4⟩ := run_app (ty := ty) (c := 1) Tryd.underlying22 info_A2 rfl (by omega) ho (Reads.two hb) (by intro u hu; simp at hu; rcases hu with rfl | rfl <;> rfl) (by unfold maxLen; omega) (by omega) h.size
  obtain ⟨D, d, rfl, _⟩ := own_slice h2
  refine ⟨D, d, w', h1, h.grow ho h3, ?_, h3⟩
  have e : flat2 ((l ++ [(x, y)]).map pairI) = flat2 (l.map pairI) ++ [.int .i64 x, .int .i64 y] := by rw [List.map_append]; exact flat2_app _ (pairI (x, y))
  unfold OwnP
  rw [e, List.length_append]
  exact h2
theorem own_far1 {base : Nat} {e : TypeId} {s n : Nat} {v : Value} {xs : List Value} (h : w.ownsRow base e s v n xs) {p : Addr} (hp : p.block < base) (u : Value) : (w.setCell p u).ownsRow base e s v n xs :=
  own_far h (fun e => by have := own_base h _ e; omega) u
end
/-- make([]int64, n). -/
theorem make_row {ops : Array Oper} {o : Oper} {rest : List Oper} {a : Act} {Q : Exit → Act → World → Prop} {w : World} {n : Nat} (hg : o.guard = none) (l : Operand) (hop : o.op = Op.makeSlice 53 l l) (hl : a.eval l = .int .i64 (n : Int)) (hn : n ≤ 70)
    (hK : ∀ w', w'.ownsRow w.heap.size 2 1 (.slice (some ⟨w.heap.size, 0, none⟩) n n) n ((List.replicate n (0 : Int)).map (Value.int .i64)) → Below w.heap.size w w' → wpList Tryd.prog ops Q rest (a.put o.dst (.slice (some ⟨w.heap.size, 0, none⟩) n n)) w') :
    wpList Tryd.prog ops Q (o :: rest) a w := by
  obtain ⟨ii, hii, hiz⟩ := Option.map_eq_some_iff.1 info_I
  simp only [Prod.mk.injEq] at hiz
  obtain ⟨z1, z2, z3⟩ := hiz
  refine wpList_make_full w hg l l 53 hop w.heap.size 2 ii (.int .i64 0) 1 Tryd.underlying53 hii z1 z2 .i64 .i64 n n n hl hl rfl rfl (by rw [z3]; omega) (by unfold maxLen; omega) (Nat.le_refl _) (fun w' h1 h2 => hK w' ?_ (bl_grown (Below.refl _ _) h2 (fun k e => by cases e)))
  have e : (madeCells (Value.int .i64 0).cells (n * 1)).toList = (List.replicate n (0 : Int)).map (Value.int .i64) := by
    rw [List.map_replicate]
    exact (congrArg (fun k => (madeCells #[Value.int .i64 0] k).toList) (Nat.mul_one n)).trans (toList_madeCells_one _ _)
  rw [e] at h1
  exact h1
/-- A row of the matrix, and the rows. -/
def RowOK (K : Int) (n i : Nat) (r : List Int) : Prop := r.length = n ∧ (∀ x ∈ r, -2147483648 ≤ x ∧ x ≤ 2147483648) ∧ (K = 2 → r.getD i 0 = 0)
def RowsOK (K : Int) (n : Nat) (rows : List (List Int)) : Prop := ∀ (i : Nat) (r : List Int), rows[i]? = some r → RowOK K n i r
theorem RowOK.zero (K : Int) (n i : Nat) : RowOK K n i (List.replicate n 0) :=
  ⟨by simp, fun x hx => by obtain ⟨_, rfl⟩ := List.mem_replicate.1 hx; exact ⟨by omega, by omega⟩, fun _ => by simp [List.getD, List.getElem?_replicate]; split <;> rfl⟩
theorem RowOK.set {K : Int} {n i j : Nat} {r : List Int} {z : Int} (h : RowOK K n i r) (hz : -2147483648 ≤ z ∧ z ≤ 2147483648) (hij : K = 2 → i ≠ j) : RowOK K n i (r.set j z) :=
  ⟨by rw [List.length_set]; exact h.1, fun x hx => by rcases List.mem_or_eq_of_mem_set hx with hx | rfl; exact h.2.1 x hx; exact hz, fun hk => by
    have := h.2.2 hk
    simp only [List.getD, List.getElem?_set] at this ⊢
    rw [if_neg (fun e => hij hk e.symm)]
    exact this⟩
theorem RowsOK.snoc {K : Int} {n : Nat} {rows : List (List Int)} {r : List Int} (h : RowsOK K n rows) (hr : RowOK K n rows.length r) : RowsOK K n (rows ++ [r]) := fun i r' hi => by
  rcases getElem?_snoc hi with ⟨_, h1⟩ | ⟨rfl, rfl⟩
  · exact h i r' h1
  · exact hr
theorem bare_of : ∀ (rows : List (List Int)) (k : Nat), (∀ (i : Nat) (r : List Int), rows[i]? = some r → r.getD (k + i) 0 = 0) → bareFrom k rows = true
  | [], _, _ => rfl
  | r :: rest, k, h => by
    simp only [bareFrom, Bool.and_eq_true, beq_iff_eq]
    exact ⟨h 0 r rfl, bare_of rest (k + 1) (fun i r' hi => by have := h (i + 1) r' (by simpa using hi); rwa [show k + 1 + i = k + (i + 1) by omega])⟩
section
variable {wr wq w : World} {I : IData} {A1 A2 A3 : Option Addr} {c1 c2 c3 : Nat} {k cp sz : Int} {v1 v2 v3 : Value}
/-- append of a row. -/
theorem TmR.runR (h : TmR wr w I A1 A2 A3 c1 c2 c3 k cp sz v1 v2 v3) {rows : List (List Int)} (ho : OwnR wr (w.heap.size + 1 + 1 + 1) 53 2 v2 rows) {g : Nat} {t : TypeId} {A : Option Addr} {q d : Nat} {r : List Int} (hx : wr.ownsRow (w.heap.size + 1 + 1 + 1) 2 1 (.slice A q d) r.length (r.map (Value.int .i64))) (hb : Blk wr g t #[.slice A q d]) (hn : rows.length ≤ 70) (ty : TypeId) :
    ∃ D d' w', (Builtin.append_ #[23, 23] ty #[v2, .slice (some ⟨g, 0, none⟩) 1 1]).run Tryd.prog wr = .ok (.slice D (rows.length + 1) d') w' ∧ TmR w' w I A1 A2 A3 c1 c2 c3 k cp sz v1 v2 v3 ∧ OwnR w' (w.heap.size + 1 + 1 + 1) 53 2 (.slice D (rows.length + 1) d') (rows ++ [r]) := by
  obtain ⟨us, hl, hr, hus⟩ := ho
  obtain ⟨v', w', h1, h2, h3, h4⟩ := run_app (ty := ty) (c := 1) Tryd.underlying23 info_R rfl (by omega) hr (Reads.one hb) (by intro u hu; simp at hu; subst hu; rfl) (by unfold maxLen; omega) (by omega) h.size
  obtain ⟨D, d', rfl, _⟩ := own_slice h2
  exact ⟨D, d', w', h1, h.grow hr h3, OwnR.snoc hl h2 (fun i r' u a b => own_oth (hus i r' u a b) hr (by decide) h3) (own_oth hx hr (by decide) h3)⟩
/-- append of a set. -/
theorem TmR.runS (h : TmR wr w I A1 A2 A3 c1 c2 c3 k cp sz v1 v2 v3) {l : List (Int × List Int)} (ho : OwnS wr (w.heap.size + 1 + 1 + 1) 61 3 v3 l) {g : Nat} {t : TypeId} {A : Option Addr} {q d : Nat} {a : Int} {r : List Int} (hx : wr.ownsRow (w.heap.size + 1 + 1 + 1) 3 1 (.slice A q d) r.length (r.map (Value.int .i64))) (hb : Blk wr g t #[.int .i64 a, .slice A q d]) (hn : l.length ≤ 70) (ty : TypeId) :
    ∃ D d' w', (Builtin.append_ #[24, 24] ty #[v3, .slice (some ⟨g, 0, none⟩) 1 1]).run Tryd.prog wr = .ok (.slice D (l.length + 1) d') w' ∧ TmR w' w I A1 A2 A3 c1 c2 c3 k cp sz v1 v2 v3 ∧ OwnS w' (w.heap.size + 1 + 1 + 1) 61 3 (.slice D (l.length + 1) d') (l ++ [(a, r)]) := by
  obtain ⟨us, hl, hr, hus⟩ := ho
  obtain ⟨v', w', h1, h2, h3, h4⟩ := run_app (ty := ty) (c := 1) Tryd.underlying24 info_X rfl (by omega) hr (Reads.two hb) (by intro u hu; simp at hu; rcases hu with rfl | rfl <;> rfl) (by unfold maxLen; omega) (by omega) h.size
  obtain ⟨D, d', rfl, _⟩ := own_slice h2
  refine ⟨D, d', w', h1, h.grow hr h3, OwnS.snoc (p := (a, r)) hl h2 (fun i p u a b => ⟨(hus i p u a b).1, own_oth (hus i p u a b).2 hr (by decide) h3⟩) (own_oth hx hr (by decide) h3)⟩
end
/-- A set of a cover. -/
def SetOK (sz : Int) (p : Int × List Int) : Prop := ClI p.1 ∧ risesB (-1) sz p.2 = true ∧ p.2.length ≤ 8
theorem rises_snoc : ∀ (l : List Int) (last size e : Int), risesB last size l = true → (∀ x ∈ l, x < e) → last < e → e < size → risesB last size (l ++ [e]) = true
  | [], last, size, e, _, _, h1, h2 => by simp [risesB]; omega
  | y :: l, last, size, e, h, hx, h1, h2 => by
    simp [risesB] at h
    obtain ⟨h3, h4⟩ := h
    simp [risesB]
    exact ⟨h3, rises_snoc l y size e h4 (fun x hx' => hx x (by simp [hx'])) (hx y (by simp)) h2⟩
/-- What stands while a set is made: the given one (in block wo's size), the new one (block gs), its elements. -/
structure SbR (wr wo : World) (gs bq : Nat) (c0 : Int) (A' : Option Addr) (q c' : Nat) (cx : Int) (v : Value) (es : List Int) : Prop where
  bl : Below wo.heap.size wo wr
  y : Blk wr wo.heap.size 61 #[.int .i64 c0, .slice A' q c']
  s : Blk wr gs 61 #[.int .i64 cx, v]
  row : wr.ownsRow bq 3 1 v es.length (es.map (Value.int .i64))
  n1 : wo.heap.size < gs
  n2 : gs < bq
  sz : bq ≤ wr.heap.size
section
variable {wr wq wo : World} {gs bq q c' : Nat} {c0 cx : Int} {A' : Option Addr} {v : Value} {es : List Int}
theorem SbR.below (h : SbR wr wo gs bq c0 A' q c' cx v es) (hb : Below wr.heap.size wr wq) : SbR wq wo gs bq c0 A' q c' cx v es :=
  ⟨bl_step h.bl hb, h.y.below hb, h.s.below hb, own_below h.row hb, h.n1, h.n2, by have := h.sz; have := hb.size; omega⟩
theorem SbR.runE (h : SbR wr wo gs bq c0 A' q c' cx v es) {g : Nat} {t : TypeId} {e : Int} (hb : Blk wr g t #[.int .i64 e]) (hn : es.length ≤ 70) (ty : TypeId) :
    ∃ D d X, (Builtin.append_ #[54, 54] ty #[v, .slice (some ⟨g, 0, none⟩) 1 1]).run Tryd.prog wr = .ok (.slice D (es.length + 1) d) X ∧ Blk X gs 61 #[.int .i64 cx, v] ∧ SbR (X.setCell ⟨gs, 1, none⟩ (.slice D (es.length + 1) d)) wo gs bq c0 A' q c' cx (.slice D (es.length + 1) d) (es ++ [e]) := by
  obtain ⟨v', X, h1, h2, h3, h4⟩ := run_app (ty := ty) (c := 1) Tryd.underlying54 info_N rfl (by omega) h.row (Reads.one hb) (by intro u hu; simp at hu; subst hu; rfl) (by unfold maxLen; omega) (by omega) h.sz
  obtain ⟨D, d, rfl, _⟩ := own_slice h2
  have n1 := h.n1
  have n2 := h.n2
  have hk : ∀ k, v.ownBlock = some k → bq ≤ k := fun k hk => own_base h.row k hk
  have bX : Below wo.heap.size wo X := bl_grown h.bl h3 (fun k e => by have := hk k e; omega)
  have yX := h.y.grown h3 (fun e => by have := hk _ e.symm; omega)
  have sX := h.s.grown h3 (fun e => by have := hk _ e.symm; omega)
  refine ⟨D, d, X, h1, sX, bl_set bX (p := ⟨gs, 1, none⟩) (by simp; omega) _, yX.far (p := ⟨gs, 1, none⟩) (by simp; omega) _, sX.put 1 _ rfl, ?_, n1, n2, ?_⟩
  · have := own_far h2 (p := ⟨gs, 1, none⟩) (fun e => by have : bq ≤ gs := own_base h2 _ e; omega) (.slice D (es.length + 1) d)
    rw [List.map_append, List.length_append]
    exact this
  · have := h3.size
    have := h.sz
    simp
    omega
end
theorem list_run {P : Program} {ops : Array Oper} {o : Oper} {rest : List Oper} {a : Act} {Q : Exit → Act → World → Prop} {w w' : World} {v' : Value} (hgd : o.guard = none) (s x : Operand) (t : TypeId)
    (ho : o.op = .call { callee := .builtin .append, args := #[s, x], argTypes := #[t, t] }) (hrun : (Builtin.append_ #[t, t] o.type #[a.eval s, a.eval x]).run P w = .ok v' w') (h : wpList P ops Q rest (a.put o.dst v') w') :
    wpList P ops Q (o :: rest) a w := by
  have hw : Region.wanted o (yielded ops a.tmps) = true := by simp [Region.wanted, hgd]
  have h1 := step_run (E := True) (ops := ops) (K := wpList P ops Q rest) (Q := Q) hgd s x t ho hrun h
  rw [if_pos hw] at h1
  unfold wpList
  rw [if_pos hw]
  exact .inl h1
end Go.Proofs.YteddbdmddgmicaaDoor
