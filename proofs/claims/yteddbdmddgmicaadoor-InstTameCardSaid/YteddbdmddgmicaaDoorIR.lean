/- The walk of insts: the program's and the document's instance. -/
import Derived.Test.YteddbdmddgmicaaDoorIM
import Derived.Test.YteddbdmddgmicaaDoorIQ
import Derived.Test.YteddbdmddgmicaaDoorIS
namespace Go.Proofs.YteddbdmddgmicaaDoor
open Go.RowKit
set_option linter.unusedVariables false
set_option linter.unusedSimpArgs false
set_option maxRecDepth 100000

def cutI (I : IData) (i j k : Nat) : IData := { I with items := (I.items.take 40).take i, cost := ((I.cost.take 70).take j).map (fun r => r.take 70), sets := ((I.sets.take 40).take k).map (fun p => (p.1, p.2.take 40)) }
/-- The two instances in a round of insts: what the rows are, and what stands in the variables. -/
structure IsR (wr w : World) (I : IData) (A1 A2 A3 : Option Addr) (c1 c2 c3 : Nat) (IA IB : IData) (v1 v2 v3 u1 u2 u3 x1 x2 x3 y1 y2 y3 : Value) : Prop where
  rows : InsR wr (w.heap.size + 1 + 1 + 1 + 1 + 1) IA IB v1 v2 v3 u1 u2 u3
  par : Blk wr w.heap.size 26 #[.int .i64 I.kind, .int .i64 I.cap, .slice A1 I.items.length c1, .slice A2 I.cost.length c2, .int .i64 I.size, .slice A3 I.sets.length c3]
  r2 : Blk wr (w.heap.size + 1) 33 #[.int .i64 0, .int .i64 0, .slice none 0 0, .slice none 0 0, .int .i64 0, .slice none 0 0]
  r3 : Blk wr (w.heap.size + 1 + 1) 36 #[.int .i64 0, .int .i64 0, .slice none 0 0, .slice none 0 0, .int .i64 0, .slice none 0 0]
  ba : Blk wr (w.heap.size + 1 + 1 + 1) 33 #[.int .i64 I.kind, .int .i64 I.cap, x1, x2, .int .i64 I.size, x3]
  bb : Blk wr (w.heap.size + 1 + 1 + 1 + 1) 36 #[.int .i64 I.kind, .int .i64 I.cap, y1, y2, .int .i64 I.size, y3]
  b : Below w.heap.size w wr
theorem Reads.two {w : World} {g : Nat} {t : TypeId} {x y : Value} (h : Blk w g t #[x, y]) : Reads w (g + 1) 2 (some ⟨g, 0, none⟩) 1 [x, y] :=
  ⟨rfl, fun _ => ⟨g, 0, rfl, by omega, fun j u hu => by
    have := h.cell j
    rw [Nat.zero_add, this]
    match j, hu with
    | 0, hu => simpa using hu
    | 1, hu => simpa using hu⟩⟩
theorem Reads.one {w : World} {g : Nat} {t : TypeId} {x : Value} (h : Blk w g t #[x]) : Reads w (g + 1) 1 (some ⟨g, 0, none⟩) 1 [x] :=
  ⟨rfl, fun _ => ⟨g, 0, rfl, by omega, fun j u hu => by
    have := h.cell j
    rw [Nat.zero_add, this]
    match j, hu with
    | 0, hu => simpa using hu⟩⟩
theorem info_A2 : (Tryd.prog.info? 60).map (fun i => (i.zero, i.size, i.bytes)) = some (some (.agg #[.int .i64 0, .int .i64 0]), 2, 16) := by kernel_rfl
theorem info_T : (Tryd.prog.info? 62).map (fun i => (i.zero, i.size, i.bytes)) = some (some (.agg #[.int .i64 0, .slice none 0 0]), 2, 32) := by kernel_rfl
theorem run_app {P : Program} {w : World} {base : Nat} {t ty e : TypeId} {z : Value} {size bytes : Nat} (ht : P.underlying t = some (.slice e)) (hinfo : (P.info? e).map (fun i => (i.zero, i.size, i.bytes)) = some (some z, size, bytes)) (hzs : z.cells.size = size) (hsz : 0 < size)
    {v : Value} {n : Nat} {xs : List Value} (hown : w.ownsRow base e size v n xs) {B : Nat} {A : Option Addr} {m c : Nat} {news : List Value} (hr : Reads w B size A m news) (h1 : ∀ u ∈ news, u.oneCell' = true)
    (h63 : n + m ≤ maxLen) (hbytes : (n + m) * bytes ≤ 140737488355328) (hbase : base ≤ w.heap.size) :
    ∃ v' w', (Builtin.append_ #[t, t] ty #[v, .slice A m c]).run P w = .ok v' w' ∧ w'.ownsRow base e size v' (n + m) (xs ++ news) ∧ w.grownBy w' v.ownBlock ∧ (v'.ownBlock = v.ownBlock ∨ v'.ownBlock = some w.heap.size) := by
  obtain ⟨i, hi, hzz⟩ := Option.map_eq_some_iff.1 hinfo
  simp only [Prod.mk.injEq] at hzz
  obtain ⟨hz, hsize, hby⟩ := hzz
  exact run_append_any (P := P) w base t ty e i z size bytes ht hi hz hsize hby hzs hsz v n xs hown B A m c news hr h1 h63 hbytes hbase
section
variable {wr wq w : World} {I IA IB : IData} {A1 A2 A3 : Option Addr} {c1 c2 c3 : Nat} {v1 v2 v3 u1 u2 u3 x1 x2 x3 y1 y2 y3 : Value}
theorem IsR.below (h : IsR wr w I A1 A2 A3 c1 c2 c3 IA IB v1 v2 v3 u1 u2 u3 x1 x2 x3 y1 y2 y3) (hb : Below wr.heap.size wr wq) : IsR wq w I A1 A2 A3 c1 c2 c3 IA IB v1 v2 v3 u1 u2 u3 x1 x2 x3 y1 y2 y3 :=
  ⟨h.rows.below hb, h.par.below hb, h.r2.below hb, h.r3.below hb, h.ba.below hb, h.bb.below hb, bl_step h.b hb⟩
theorem IsR.alloc (h : IsR wr w I A1 A2 A3 c1 c2 c3 IA IB v1 v2 v3 u1 u2 u3 x1 x2 x3 y1 y2 y3) (o : Obj) : IsR (wr.alloc o) w I A1 A2 A3 c1 c2 c3 IA IB v1 v2 v3 u1 u2 u3 x1 x2 x3 y1 y2 y3 := h.below (bl_alloc (Below.refl _ _) o)
theorem IsR.drew (h : IsR wr w I A1 A2 A3 c1 c2 c3 IA IB v1 v2 v3 u1 u2 u3 x1 x2 x3 y1 y2 y3) : IsR wr.drew w I A1 A2 A3 c1 c2 c3 IA IB v1 v2 v3 u1 u2 u3 x1 x2 x3 y1 y2 y3 := h.below (bl_drew (Below.refl _ _))
theorem IsR.size (h : IsR wr w I A1 A2 A3 c1 c2 c3 IA IB v1 v2 v3 u1 u2 u3 x1 x2 x3 y1 y2 y3) : w.heap.size + 1 + 1 + 1 + 1 + 1 ≤ wr.heap.size := by have := h.bb.lt; omega
/-- A row grew: the variables stand. -/
theorem IsR.grow (h : IsR wr w I A1 A2 A3 c1 c2 c3 IA IB v1 v2 v3 u1 u2 u3 x1 x2 x3 y1 y2 y3) {IA' IB' : IData} {a1 a2 a3 b1 b2 b3 : Value} {e : TypeId} {s n : Nat} {v : Value} {xs : List Value} (ho : wr.ownsRow (w.heap.size + 1 + 1 + 1 + 1 + 1) e s v n xs) (hg : wr.grownBy wq v.ownBlock)
    (hr : InsR wq (w.heap.size + 1 + 1 + 1 + 1 + 1) IA' IB' a1 a2 a3 b1 b2 b3) : IsR wq w I A1 A2 A3 c1 c2 c3 IA' IB' a1 a2 a3 b1 b2 b3 x1 x2 x3 y1 y2 y3 := by
  have hk : ∀ k, v.ownBlock = some k → w.heap.size + 1 + 1 + 1 + 1 + 1 ≤ k := fun k hk => own_base ho k hk
  exact ⟨hr, h.par.grown hg (fun e => by have := hk _ e.symm; omega), h.r2.grown hg (fun e => by have := hk _ e.symm; omega), h.r3.grown hg (fun e => by have := hk _ e.symm; omega), h.ba.grown hg (fun e => by have := hk _ e.symm; omega), h.bb.grown hg (fun e => by have := hk _ e.symm; omega), bl_grown h.b hg (fun k e => by have := hk k e; omega)⟩
theorem IsR.runA1 (h : IsR wr w I A1 A2 A3 c1 c2 c3 IA IB v1 v2 v3 u1 u2 u3 x1 x2 x3 y1 y2 y3) {g : Nat} {t : TypeId} {p : Int × Int} (hb : Blk wr g t #[.int .i64 p.1, .int .i64 p.2]) (hn : IA.items.length ≤ 70) (ty : TypeId) :
    ∃ D d w', (Builtin.append_ #[30, 30] ty #[v1, .slice (some ⟨g, 0, none⟩) 1 1]).run Tryd.prog wr = .ok (.slice D (IA.items.length + 1) d) w' ∧ IsR w' w I A1 A2 A3 c1 c2 c3 { IA with items := IA.items ++ [p] } IB (.slice D (IA.items.length + 1) d) v2 v3 u1 u2 u3 x1 x2 x3 y1 y2 y3 ∧ wr.grownBy w' v1.ownBlock := by
  obtain ⟨v', w', h1, h2, h3, h4⟩ := run_app (ty := ty) (c := 1) Tryd.underlying30 info_P rfl (by omega) h.rows.a1 (Reads.two hb) (by intro u hu; simp at hu; rcases hu with rfl | rfl <;> rfl) (by unfold maxLen; omega) (by omega) h.size
  obtain ⟨D, d, rfl, _⟩ := own_slice h2
  exact ⟨D, d, w', h1, h.grow h.rows.a1 h3 (h.rows.stepA1 p h2 h3), h3⟩
theorem IsR.runB1 (h : IsR wr w I A1 A2 A3 c1 c2 c3 IA IB v1 v2 v3 u1 u2 u3 x1 x2 x3 y1 y2 y3) {g : Nat} {t : TypeId} {p : Int × Int} (hb : Blk wr g t #[.int .i64 p.1, .int .i64 p.2]) (hn : IB.items.length ≤ 70) (ty : TypeId) :
    ∃ D d w', (Builtin.append_ #[22, 22] ty #[u1, .slice (some ⟨g, 0, none⟩) 1 1]).run Tryd.prog wr = .ok (.slice D (IB.items.length + 1) d) w' ∧ IsR w' w I A1 A2 A3 c1 c2 c3 IA { IB with items := IB.items ++ [p] } v1 v2 v3 (.slice D (IB.items.length + 1) d) u2 u3 x1 x2 x3 y1 y2 y3 ∧ wr.grownBy w' u1.ownBlock := by
  obtain ⟨v', w', h1, h2, h3, h4⟩ := run_app (ty := ty) (c := 1) Tryd.underlying22 info_A2 rfl (by omega) h.rows.b1 (Reads.two hb) (by intro u hu; simp at hu; rcases hu with rfl | rfl <;> rfl) (by unfold maxLen; omega) (by omega) h.size
  obtain ⟨D, d, rfl, _⟩ := own_slice h2
  exact ⟨D, d, w', h1, h.grow h.rows.b1 h3 (h.rows.stepB1 p h2 h3), h3⟩
def cutF (I : IData) : IData := { I with items := I.items.take 40, cost := (I.cost.take 70).map (fun r => r.take 70), sets := (I.sets.take 40).map (fun p => (p.1, p.2.take 40)) }
theorem cutF_in (h : IIn I) : IIn (cutF I) := by
  refine ⟨h.kind, h.cap, h.size, fun p hp => h.items p (List.mem_of_mem_take hp), fun r hr x hx => ?_, fun p hp => ?_⟩
  · obtain ⟨r0, h0, rfl⟩ := List.mem_map.1 hr
    exact h.cost r0 (List.mem_of_mem_take h0) x (List.mem_of_mem_take hx)
  · obtain ⟨p0, h0, rfl⟩ := List.mem_map.1 hp
    exact ⟨(h.sets p0 (List.mem_of_mem_take h0)).1, fun x hx => (h.sets p0 (List.mem_of_mem_take h0)).2 x (List.mem_of_mem_take hx)⟩
/-- What insts hands back. -/
def InsPost (w : World) (I : IData) (e : Ending) (w' : World) : Prop := ∃ D1 d1 D2 d2 D3 d3 E1 e1 E2 e2 E3 e3, e = .returned (.tuple #[.agg #[.int .i64 I.kind, .int .i64 I.cap, .slice D1 (cutF I).items.length d1, .slice D2 (cutF I).cost.length d2, .int .i64 I.size, .slice D3 (cutF I).sets.length d3], .agg #[.int .i64 I.kind, .int .i64 I.cap, .slice E1 (cutF I).items.length e1, .slice E2 (cutF I).cost.length e2, .int .i64 I.size, .slice E3 (cutF I).sets.length e3]]) ∧
  (OwnI w' (w.heap.size + 1 + 1 + 1 + 1 + 1) 52 56 (cutF I) D1 d1 D2 d2 D3 d3 ∧ OwnI w' (w.heap.size + 1 + 1 + 1 + 1 + 1) 60 62 (cutF I) E1 e1 E2 e2 E3 e3) ∧ Below w.heap.size w w'
theorem InsR.both {base : Nat} {D1 D2 D3 E1 E2 E3 : Option Addr} {d1 d2 d3 e1 e2 e3 : Nat} (h : InsR wr base IA IA (.slice D1 IA.items.length d1) (.slice D2 IA.cost.length d2) (.slice D3 IA.sets.length d3) (.slice E1 IA.items.length e1) (.slice E2 IA.cost.length e2) (.slice E3 IA.sets.length e3)) (hi : IIn IA) :
    OwnI wr base 52 56 IA D1 d1 D2 d2 D3 d3 ∧ OwnI wr base 60 62 IA E1 e1 E2 e2 E3 e3 :=
  ⟨⟨h.a1, h.a2, h.a3, hi⟩, ⟨h.b1, h.b2, h.b3, hi⟩⟩
theorem own_sz {w : World} {base : Nat} {e : TypeId} {s n : Nat} {v : Value} {xs : List Value} (h : w.ownsRow base e s v n xs) (k : Nat) (hk : v.ownBlock = some k) : k < w.heap.size := by
  rcases h.2 with ⟨rfl, _⟩ | ⟨g, cap, cur, rfl, _, hh, _⟩
  · simp [Value.ownBlock] at hk
  · have e3 : g = k := by simpa [Value.ownBlock] using hk
    have := (Array.getElem?_eq_some_iff.1 hh).1
    omega
theorem step_run {P : Program} {ops : Array Oper} {o : Oper} {a : Act} {K : Act → World → Prop} {Q : Exit → Act → World → Prop} {E : Prop} {w w' : World} {v' : Value} (hgd : o.guard = none) (s x : Operand) (t : TypeId)
    (ho : o.op = .call { callee := .builtin .append, args := #[s, x], argTypes := #[t, t] }) (hrun : (Builtin.append_ #[t, t] o.type #[a.eval s, a.eval x]).run P w = .ok v' w') (h : K (a.put o.dst v') w') :
    if Region.wanted o (yielded ops a.tmps) = true then Oper.wp P o a w K Q else E := by
  have hw : Region.wanted o (yielded ops a.tmps) = true := by simp [Region.wanted, hgd]
  rw [if_pos hw]
  unfold Oper.wp execOp
  simp only [ho, resolve, invoke, builtin, Sem.run_bind, Sem.run_pure, Result.andThen_ok, List.map_toArray, List.map_cons, List.map_nil, hrun]
  exact h
theorem RdI.cutq {w : World} {B : Nat} {A : Option Addr} {r : List Int} (h : RdI w B A r) (k : Nat) : RdI w B A (r.take k) := by
  have := Reads.cut h (k := (r.take k).length) (by simp [List.length_take]; omega)
  unfold RdI
  rw [List.map_take]
  have e : (List.take k r).length * 1 = min k r.length := by simp
  rw [e] at this
  have e2 : List.take (min k r.length) (List.map (Value.int .i64) r) = List.take k (List.map (Value.int .i64) r) := by
    rw [← List.take_take, List.take_of_length_le (l := List.map (Value.int .i64) r) (by simp)]
  rwa [e2] at this
/-- append(nil, ..): a row of its own. -/
theorem IsR.runN (h : IsR wr w I A1 A2 A3 c1 c2 c3 IA IB v1 v2 v3 u1 u2 u3 x1 x2 x3 y1 y2 y3) {t e : TypeId} (ht : Tryd.prog.underlying t = some (.slice e)) (hinfo : (Tryd.prog.info? e).map (fun i => (i.zero, i.size, i.bytes)) = some (some (.int .i64 0), 1, 8)) {B : Nat} {A : Option Addr} {r : List Int} {q c : Nat} (hr : RdI w B A r) (hB : B ≤ w.heap.size) (hq : r.length = q) (hn : q ≤ 70) (ty : TypeId) :
    ∃ D d w', (Builtin.append_ #[t, t] ty #[.slice none 0 0, .slice A q c]).run Tryd.prog wr = .ok (.slice D q d) w' ∧ IsR w' w I A1 A2 A3 c1 c2 c3 IA IB v1 v2 v3 u1 u2 u3 x1 x2 x3 y1 y2 y3 ∧ w'.ownsRow (w.heap.size + 1 + 1 + 1 + 1 + 1) e 1 (.slice D q d) q (r.map (Value.int .i64)) ∧ Below wr.heap.size wr w' := by
  subst hq
  obtain ⟨v', w', h1, h2, h3, h4⟩ := run_app (ty := ty) (c := c) ht hinfo rfl (by omega) (own_nil wr (w.heap.size + 1 + 1 + 1 + 1 + 1) e 1) (hr.keep (Alike.of_below h.b hB)) (one_map r) (by unfold maxLen; omega) (by omega) h.size
  rw [Nat.zero_add, List.nil_append] at h2
  have hb : Below wr.heap.size wr w' := bl_grown (Below.refl _ _) h3 (fun k e => by simp [Value.ownBlock] at e)
  obtain ⟨D, d, rfl, _⟩ := own_slice h2
  exact ⟨D, d, w', h1, h.below hb, h2, hb⟩
theorem IsR.runA2 (h : IsR wr w I A1 A2 A3 c1 c2 c3 IA IB v1 v2 v3 u1 u2 u3 x1 x2 x3 y1 y2 y3) {g : Nat} {t : TypeId} {A : Option Addr} {q d : Nat} {r : List Int} (hq : r.length = q) (hx : wr.ownsRow (w.heap.size + 1 + 1 + 1 + 1 + 1) 2 1 (.slice A q d) q (r.map (Value.int .i64))) (hb : Blk wr g t #[.slice A q d]) (hn : IA.cost.length ≤ 70) (ty : TypeId) :
    ∃ D d w', (Builtin.append_ #[23, 23] ty #[v2, .slice (some ⟨g, 0, none⟩) 1 1]).run Tryd.prog wr = .ok (.slice D (IA.cost.length + 1) d) w' ∧ IsR w' w I A1 A2 A3 c1 c2 c3 { IA with cost := IA.cost ++ [r] } IB v1 (.slice D (IA.cost.length + 1) d) v3 u1 u2 u3 x1 x2 x3 y1 y2 y3 ∧ wr.grownBy w' v2.ownBlock := by
  subst hq
  obtain ⟨us, hl, hr, hus⟩ := h.rows.a2
  obtain ⟨v', w', h1, h2, h3, h4⟩ := run_app (ty := ty) (c := 1) Tryd.underlying23 info_R rfl (by omega) hr (Reads.one hb) (by intro u hu; simp at hu; subst hu; rfl) (by unfold maxLen; omega) (by omega) h.size
  have H := h.rows.stepA2 r hl hr hus hx h2 h3 h4
  obtain ⟨D, d, rfl, _⟩ := own_slice h2
  exact ⟨D, d, w', h1, h.grow hr h3 H, h3⟩
theorem IsR.runB2 (h : IsR wr w I A1 A2 A3 c1 c2 c3 IA IB v1 v2 v3 u1 u2 u3 x1 x2 x3 y1 y2 y3) {g : Nat} {t : TypeId} {A : Option Addr} {q d : Nat} {r : List Int} (hq : r.length = q) (hx : wr.ownsRow (w.heap.size + 1 + 1 + 1 + 1 + 1) 2 1 (.slice A q d) q (r.map (Value.int .i64))) (hb : Blk wr g t #[.slice A q d]) (hn : IB.cost.length ≤ 70) (ty : TypeId) :
    ∃ D d w', (Builtin.append_ #[23, 23] ty #[u2, .slice (some ⟨g, 0, none⟩) 1 1]).run Tryd.prog wr = .ok (.slice D (IB.cost.length + 1) d) w' ∧ IsR w' w I A1 A2 A3 c1 c2 c3 IA { IB with cost := IB.cost ++ [r] } v1 v2 v3 u1 (.slice D (IB.cost.length + 1) d) u3 x1 x2 x3 y1 y2 y3 ∧ wr.grownBy w' u2.ownBlock := by
  subst hq
  obtain ⟨us, hl, hr, hus⟩ := h.rows.b2
  obtain ⟨v', w', h1, h2, h3, h4⟩ := run_app (ty := ty) (c := 1) Tryd.underlying23 info_R rfl (by omega) hr (Reads.one hb) (by intro u hu; simp at hu; subst hu; rfl) (by unfold maxLen; omega) (by omega) h.size
  have H := h.rows.stepB2 r hl hr hus hx h2 h3 h4
  obtain ⟨D, d, rfl, _⟩ := own_slice h2
  exact ⟨D, d, w', h1, h.grow hr h3 H, h3⟩
theorem IsR.runA3 (h : IsR wr w I A1 A2 A3 c1 c2 c3 IA IB v1 v2 v3 u1 u2 u3 x1 x2 x3 y1 y2 y3) {g : Nat} {t : TypeId} {A : Option Addr} {q d : Nat} {a : Int} {r : List Int} (hq : r.length = q) (hx : wr.ownsRow (w.heap.size + 1 + 1 + 1 + 1 + 1) 3 1 (.slice A q d) q (r.map (Value.int .i64))) (hb : Blk wr g t #[.int .i64 a, .slice A q d]) (hn : IA.sets.length ≤ 70) (ty : TypeId) :
    ∃ D d w', (Builtin.append_ #[31, 31] ty #[v3, .slice (some ⟨g, 0, none⟩) 1 1]).run Tryd.prog wr = .ok (.slice D (IA.sets.length + 1) d) w' ∧ IsR w' w I A1 A2 A3 c1 c2 c3 { IA with sets := IA.sets ++ [(a, r)] } IB v1 v2 (.slice D (IA.sets.length + 1) d) u1 u2 u3 x1 x2 x3 y1 y2 y3 ∧ wr.grownBy w' v3.ownBlock := by
  subst hq
  obtain ⟨us, hl, hr, hus⟩ := h.rows.a3
  obtain ⟨v', w', h1, h2, h3, h4⟩ := run_app (ty := ty) (c := 1) Tryd.underlying31 info_S rfl (by omega) hr (Reads.two hb) (by intro u hu; simp at hu; rcases hu with rfl | rfl <;> rfl) (by unfold maxLen; omega) (by omega) h.size
  have H := h.rows.stepA3 (a, r) hl hr hus hx h2 h3
  obtain ⟨D, d, rfl, _⟩ := own_slice h2
  exact ⟨D, d, w', h1, h.grow hr h3 H, h3⟩
theorem IsR.runB3 (h : IsR wr w I A1 A2 A3 c1 c2 c3 IA IB v1 v2 v3 u1 u2 u3 x1 x2 x3 y1 y2 y3) {g : Nat} {t : TypeId} {A : Option Addr} {q d : Nat} {a : Int} {r : List Int} (hq : r.length = q) (hx : wr.ownsRow (w.heap.size + 1 + 1 + 1 + 1 + 1) 3 1 (.slice A q d) q (r.map (Value.int .i64))) (hb : Blk wr g t #[.int .i64 a, .slice A q d]) (hn : IB.sets.length ≤ 70) (ty : TypeId) :
    ∃ D d w', (Builtin.append_ #[34, 34] ty #[u3, .slice (some ⟨g, 0, none⟩) 1 1]).run Tryd.prog wr = .ok (.slice D (IB.sets.length + 1) d) w' ∧ IsR w' w I A1 A2 A3 c1 c2 c3 IA { IB with sets := IB.sets ++ [(a, r)] } v1 v2 v3 u1 u2 (.slice D (IB.sets.length + 1) d) x1 x2 x3 y1 y2 y3 ∧ wr.grownBy w' u3.ownBlock := by
  subst hq
  obtain ⟨us, hl, hr, hus⟩ := h.rows.b3
  obtain ⟨v', w', h1, h2, h3, h4⟩ := run_app (ty := ty) (c := 1) Tryd.underlying34 info_T rfl (by omega) hr (Reads.two hb) (by intro u hu; simp at hu; rcases hu with rfl | rfl <;> rfl) (by unfold maxLen; omega) (by omega) h.size
  have H := h.rows.stepB3 (a, r) hl hr hus hx h2 h3
  obtain ⟨D, d, rfl, _⟩ := own_slice h2
  exact ⟨D, d, w', h1, h.grow hr h3 H, h3⟩
theorem cut_cost {i j k : Nat} {r : List Int} (hp : (I.cost.take 70)[j]? = some r) : { cutI I i j k with cost := (cutI I i j k).cost ++ [r.take 70] } = cutI I i (j + 1) k := by
  simp only [cutI, IData.mk.injEq, true_and, and_true]
  rw [List.take_add_one (l := I.cost.take 70) (i := j), hp, List.map_append]
  rfl
theorem cut_sets {i j k : Nat} {p : Int × List Int} (hp : (I.sets.take 40)[k]? = some p) : { cutI I i j k with sets := (cutI I i j k).sets ++ [(p.1, p.2.take 40)] } = cutI I i j (k + 1) := by
  simp only [cutI, IData.mk.injEq, true_and, and_true]
  rw [List.take_add_one (l := I.sets.take 40) (i := k), hp, List.map_append]
  rfl
theorem cut_items {i j k : Nat} {p : Int × Int} (hp : (I.items.take 40)[i]? = some p) : { cutI I i j k with items := (cutI I i j k).items ++ [p] } = cutI I (i + 1) j k := by
  simp only [cutI, IData.mk.injEq, true_and, and_true]
  rw [List.take_add_one (l := I.items.take 40) (i := i), hp]
  rfl
/-- A variable is written. -/
theorem IsR.putA (h : IsR wr w I A1 A2 A3 c1 c2 c3 IA IB v1 v2 v3 u1 u2 u3 x1 x2 x3 y1 y2 y3) (i : Nat) (u : Value) {z1 z2 z3 : Value} (e : (#[.int .i64 I.kind, .int .i64 I.cap, x1, x2, .int .i64 I.size, x3] : Array Value).setIfInBounds i u = #[.int .i64 I.kind, .int .i64 I.cap, z1, z2, .int .i64 I.size, z3]) :
    IsR (wr.setCell ⟨w.heap.size + 1 + 1 + 1, i, none⟩ u) w I A1 A2 A3 c1 c2 c3 IA IB v1 v2 v3 u1 u2 u3 z1 z2 z3 y1 y2 y3 :=
  ⟨h.rows.set (by show w.heap.size + 1 + 1 + 1 < _; omega) u, h.par.far (by show ¬ _ = w.heap.size + 1 + 1 + 1; omega) u, h.r2.far (by show ¬ _ = w.heap.size + 1 + 1 + 1; omega) u, h.r3.far (by show ¬ _ = w.heap.size + 1 + 1 + 1; omega) u, h.ba.put i u e, h.bb.far (by show ¬ _ = w.heap.size + 1 + 1 + 1; omega) u, bl_set h.b (by show _ ≤ w.heap.size + 1 + 1 + 1; omega) u⟩
theorem IsR.putB (h : IsR wr w I A1 A2 A3 c1 c2 c3 IA IB v1 v2 v3 u1 u2 u3 x1 x2 x3 y1 y2 y3) (i : Nat) (u : Value) {z1 z2 z3 : Value} (e : (#[.int .i64 I.kind, .int .i64 I.cap, y1, y2, .int .i64 I.size, y3] : Array Value).setIfInBounds i u = #[.int .i64 I.kind, .int .i64 I.cap, z1, z2, .int .i64 I.size, z3]) :
    IsR (wr.setCell ⟨w.heap.size + 1 + 1 + 1 + 1, i, none⟩ u) w I A1 A2 A3 c1 c2 c3 IA IB v1 v2 v3 u1 u2 u3 x1 x2 x3 z1 z2 z3 :=
  ⟨h.rows.set (by show w.heap.size + 1 + 1 + 1 + 1 < _; omega) u, h.par.far (by show ¬ _ = w.heap.size + 1 + 1 + 1 + 1; omega) u, h.r2.far (by show ¬ _ = w.heap.size + 1 + 1 + 1 + 1; omega) u, h.r3.far (by show ¬ _ = w.heap.size + 1 + 1 + 1 + 1; omega) u, h.ba.far (by show ¬ _ = w.heap.size + 1 + 1 + 1 + 1; omega) u, h.bb.put i u e, bl_set h.b (by show _ ≤ w.heap.size + 1 + 1 + 1 + 1; omega) u⟩
end

set_option maxHeartbeats 12800000 in
theorem insts_any (I : IData) (A1 A2 A3 : Option Addr) (c1 c2 c3 : Nat) (w : World) {B : Nat} (hI : InstAt w B I A1 c1 A2 c2 A3 c3) :
    Calls Tryd.prog 8 #[.agg #[.int .i64 I.kind, .int .i64 I.cap, .slice A1 I.items.length c1, .slice A2 I.cost.length c2, .int .i64 I.size, .slice A3 I.sets.length c3]] w fun e w' => InsPost w I e w' := by
  have HI := Lib.hid hI
  have N1 := hI.n1
  have N2 := hI.n2
  have N3 := hI.n3
  obtain ⟨m1, M1⟩ : ∃ m, (I.items.take 40).length = m := ⟨_, rfl⟩
  obtain ⟨m2, M2⟩ : ∃ m, (I.cost.take 70).length = m := ⟨_, rfl⟩
  obtain ⟨m3, M3⟩ : ∃ m, (I.sets.take 40).length = m := ⟨_, rfl⟩
  have E1 : (if (40 : Int) < (I.items.length : Int) then (40 : Int) else (I.items.length : Int)) = (m1 : Int) := by rw [List.length_take] at M1; split <;> omega
  have E2 : (if (70 : Int) < (I.cost.length : Int) then (70 : Int) else (I.cost.length : Int)) = (m2 : Int) := by rw [List.length_take] at M2; split <;> omega
  have E3 : (if (40 : Int) < (I.sets.length : Int) then (40 : Int) else (I.sets.length : Int)) = (m3 : Int) := by rw [List.length_take] at M3; split <;> omega
  have B1 : m1 ≤ 40 ∧ m1 ≤ I.items.length := by rw [List.length_take] at M1; omega
  have B2 : m2 ≤ 70 ∧ m2 ≤ I.cost.length := by rw [List.length_take] at M2; omega
  have B3 : m3 ≤ 40 ∧ m3 ≤ I.sets.length := by rw [List.length_take] at M3; omega
  replace M1 := Lib.hid M1
  replace M2 := Lib.hid M2
  replace M3 := Lib.hid M3
  clear hI
  go_enter Tryd.func8, Tryd.ntmps8
  have bl0 := Below.refl w.heap.size w
  go_wp2_with fail
  have Ni_0 : Blk (((((w.alloc (.cells #[.int .i64 I.kind, .int .i64 I.cap, .slice A1 I.items.length c1, .slice A2 I.cost.length c2, .int .i64 I.size, .slice A3 I.sets.length c3] 26)).alloc (.cells #[.int .i64 0, .int .i64 0, .slice none 0 0, .slice none 0 0, .int .i64 0, .slice none 0 0] 33)).alloc (.cells #[.int .i64 0, .int .i64 0, .slice none 0 0, .slice none 0 0, .int .i64 0, .slice none 0 0] 36)).alloc (.cells #[.int .i64 I.kind, .int .i64 I.cap, .slice none 0 0, .slice none 0 0, .int .i64 I.size, .slice none 0 0] 33)).alloc (.cells #[.int .i64 I.kind, .int .i64 I.cap, .slice none 0 0, .slice none 0 0, .int .i64 I.size, .slice none 0 0] 36)) (w.heap.size) 26 #[.int .i64 I.kind, .int .i64 I.cap, .slice A1 I.items.length c1, .slice A2 I.cost.length c2, .int .i64 I.size, .slice A3 I.sets.length c3] := (((((Blk.new _ _ _).alloc _).alloc _).alloc _).alloc _)
  have Nr_0 : Blk (((((w.alloc (.cells #[.int .i64 I.kind, .int .i64 I.cap, .slice A1 I.items.length c1, .slice A2 I.cost.length c2, .int .i64 I.size, .slice A3 I.sets.length c3] 26)).alloc (.cells #[.int .i64 0, .int .i64 0, .slice none 0 0, .slice none 0 0, .int .i64 0, .slice none 0 0] 33)).alloc (.cells #[.int .i64 0, .int .i64 0, .slice none 0 0, .slice none 0 0, .int .i64 0, .slice none 0 0] 36)).alloc (.cells #[.int .i64 I.kind, .int .i64 I.cap, .slice none 0 0, .slice none 0 0, .int .i64 I.size, .slice none 0 0] 33)).alloc (.cells #[.int .i64 I.kind, .int .i64 I.cap, .slice none 0 0, .slice none 0 0, .int .i64 I.size, .slice none 0 0] 36)) (w.heap.size + 1) 33 #[.int .i64 0, .int .i64 0, .slice none 0 0, .slice none 0 0, .int .i64 0, .slice none 0 0] := ((((Blk.new' (by simp) _ _).alloc _).alloc _).alloc _)
  have Ns_0 : Blk (((((w.alloc (.cells #[.int .i64 I.kind, .int .i64 I.cap, .slice A1 I.items.length c1, .slice A2 I.cost.length c2, .int .i64 I.size, .slice A3 I.sets.length c3] 26)).alloc (.cells #[.int .i64 0, .int .i64 0, .slice none 0 0, .slice none 0 0, .int .i64 0, .slice none 0 0] 33)).alloc (.cells #[.int .i64 0, .int .i64 0, .slice none 0 0, .slice none 0 0, .int .i64 0, .slice none 0 0] 36)).alloc (.cells #[.int .i64 I.kind, .int .i64 I.cap, .slice none 0 0, .slice none 0 0, .int .i64 I.size, .slice none 0 0] 33)).alloc (.cells #[.int .i64 I.kind, .int .i64 I.cap, .slice none 0 0, .slice none 0 0, .int .i64 I.size, .slice none 0 0] 36)) (w.heap.size + 1 + 1) 36 #[.int .i64 0, .int .i64 0, .slice none 0 0, .slice none 0 0, .int .i64 0, .slice none 0 0] := (((Blk.new' (by simp) _ _).alloc _).alloc _)
  have Na_0 : Blk (((((w.alloc (.cells #[.int .i64 I.kind, .int .i64 I.cap, .slice A1 I.items.length c1, .slice A2 I.cost.length c2, .int .i64 I.size, .slice A3 I.sets.length c3] 26)).alloc (.cells #[.int .i64 0, .int .i64 0, .slice none 0 0, .slice none 0 0, .int .i64 0, .slice none 0 0] 33)).alloc (.cells #[.int .i64 0, .int .i64 0, .slice none 0 0, .slice none 0 0, .int .i64 0, .slice none 0 0] 36)).alloc (.cells #[.int .i64 I.kind, .int .i64 I.cap, .slice none 0 0, .slice none 0 0, .int .i64 I.size, .slice none 0 0] 33)).alloc (.cells #[.int .i64 I.kind, .int .i64 I.cap, .slice none 0 0, .slice none 0 0, .int .i64 I.size, .slice none 0 0] 36)) (w.heap.size + 1 + 1 + 1) 33 #[.int .i64 I.kind, .int .i64 I.cap, .slice none 0 0, .slice none 0 0, .int .i64 I.size, .slice none 0 0] := ((Blk.new' (by simp) _ _).alloc _)
  have Nb_0 : Blk (((((w.alloc (.cells #[.int .i64 I.kind, .int .i64 I.cap, .slice A1 I.items.length c1, .slice A2 I.cost.length c2, .int .i64 I.size, .slice A3 I.sets.length c3] 26)).alloc (.cells #[.int .i64 0, .int .i64 0, .slice none 0 0, .slice none 0 0, .int .i64 0, .slice none 0 0] 33)).alloc (.cells #[.int .i64 0, .int .i64 0, .slice none 0 0, .slice none 0 0, .int .i64 0, .slice none 0 0] 36)).alloc (.cells #[.int .i64 I.kind, .int .i64 I.cap, .slice none 0 0, .slice none 0 0, .int .i64 I.size, .slice none 0 0] 33)).alloc (.cells #[.int .i64 I.kind, .int .i64 I.cap, .slice none 0 0, .slice none 0 0, .int .i64 I.size, .slice none 0 0] 36)) (w.heap.size + 1 + 1 + 1 + 1) 36 #[.int .i64 I.kind, .int .i64 I.cap, .slice none 0 0, .slice none 0 0, .int .i64 I.size, .slice none 0 0] := (Blk.new' (by simp) _ _)
  have bl0 := bl_alloc (bl_alloc (bl_alloc (bl_alloc (bl_alloc (bl0) (.cells #[.int .i64 I.kind, .int .i64 I.cap, .slice A1 I.items.length c1, .slice A2 I.cost.length c2, .int .i64 I.size, .slice A3 I.sets.length c3] 26)) (.cells #[.int .i64 0, .int .i64 0, .slice none 0 0, .slice none 0 0, .int .i64 0, .slice none 0 0] 33)) (.cells #[.int .i64 0, .int .i64 0, .slice none 0 0, .slice none 0 0, .int .i64 0, .slice none 0 0] 36)) (.cells #[.int .i64 I.kind, .int .i64 I.cap, .slice none 0 0, .slice none 0 0, .int .i64 I.size, .slice none 0 0] 33)) (.cells #[.int .i64 I.kind, .int .i64 I.cap, .slice none 0 0, .slice none 0 0, .int .i64 I.size, .slice none 0 0] 36)
  generalize ((((w.alloc (.cells #[.int .i64 I.kind, .int .i64 I.cap, .slice A1 I.items.length c1, .slice A2 I.cost.length c2, .int .i64 I.size, .slice A3 I.sets.length c3] 26)).alloc (.cells #[.int .i64 0, .int .i64 0, .slice none 0 0, .slice none 0 0, .int .i64 0, .slice none 0 0] 33)).alloc (.cells #[.int .i64 0, .int .i64 0, .slice none 0 0, .slice none 0 0, .int .i64 0, .slice none 0 0] 36)).alloc (.cells #[.int .i64 I.kind, .int .i64 I.cap, .slice none 0 0, .slice none 0 0, .int .i64 I.size, .slice none 0 0] 33)).alloc (.cells #[.int .i64 I.kind, .int .i64 I.cap, .slice none 0 0, .slice none 0 0, .int .i64 I.size, .slice none 0 0] 36) = vw0 at Ni_0 Nr_0 Ns_0 Na_0 Nb_0 bl0 ⊢
  have i_n0_z : w.heap.size < vw0.heap.size := Ni_0.lt
  have i_n0_c0 : vw0.cell? ⟨w.heap.size, 0, none⟩ = some (.int .i64 I.kind) := (Ni_0.cell 0).trans rfl
  have i_n0_f0 := Ni_0.frozen 0
  have i_n0_c1 : vw0.cell? ⟨w.heap.size, 1, none⟩ = some (.int .i64 I.cap) := (Ni_0.cell 1).trans rfl
  have i_n0_f1 := Ni_0.frozen 1
  have i_n0_c2 : vw0.cell? ⟨w.heap.size, 2, none⟩ = some (.slice A1 I.items.length c1) := (Ni_0.cell 2).trans rfl
  have i_n0_f2 := Ni_0.frozen 2
  have i_n0_c3 : vw0.cell? ⟨w.heap.size, 3, none⟩ = some (.slice A2 I.cost.length c2) := (Ni_0.cell 3).trans rfl
  have i_n0_f3 := Ni_0.frozen 3
  have i_n0_c4 : vw0.cell? ⟨w.heap.size, 4, none⟩ = some (.int .i64 I.size) := (Ni_0.cell 4).trans rfl
  have i_n0_f4 := Ni_0.frozen 4
  have i_n0_c5 : vw0.cell? ⟨w.heap.size, 5, none⟩ = some (.slice A3 I.sets.length c3) := (Ni_0.cell 5).trans rfl
  have i_n0_f5 := Ni_0.frozen 5
  have r_n0_z : w.heap.size + 1 < vw0.heap.size := Nr_0.lt
  have r_n0_c0 : vw0.cell? ⟨w.heap.size + 1, 0, none⟩ = some (.int .i64 0) := (Nr_0.cell 0).trans rfl
  have r_n0_f0 := Nr_0.frozen 0
  have r_n0_c1 : vw0.cell? ⟨w.heap.size + 1, 1, none⟩ = some (.int .i64 0) := (Nr_0.cell 1).trans rfl
  have r_n0_f1 := Nr_0.frozen 1
  have r_n0_c2 : vw0.cell? ⟨w.heap.size + 1, 2, none⟩ = some (.slice none 0 0) := (Nr_0.cell 2).trans rfl
  have r_n0_f2 := Nr_0.frozen 2
  have r_n0_c3 : vw0.cell? ⟨w.heap.size + 1, 3, none⟩ = some (.slice none 0 0) := (Nr_0.cell 3).trans rfl
  have r_n0_f3 := Nr_0.frozen 3
  have r_n0_c4 : vw0.cell? ⟨w.heap.size + 1, 4, none⟩ = some (.int .i64 0) := (Nr_0.cell 4).trans rfl
  have r_n0_f4 := Nr_0.frozen 4
  have r_n0_c5 : vw0.cell? ⟨w.heap.size + 1, 5, none⟩ = some (.slice none 0 0) := (Nr_0.cell 5).trans rfl
  have r_n0_f5 := Nr_0.frozen 5
  have s_n0_z : w.heap.size + 1 + 1 < vw0.heap.size := Ns_0.lt
  have s_n0_c0 : vw0.cell? ⟨w.heap.size + 1 + 1, 0, none⟩ = some (.int .i64 0) := (Ns_0.cell 0).trans rfl
  have s_n0_f0 := Ns_0.frozen 0
  have s_n0_c1 : vw0.cell? ⟨w.heap.size + 1 + 1, 1, none⟩ = some (.int .i64 0) := (Ns_0.cell 1).trans rfl
  have s_n0_f1 := Ns_0.frozen 1
  have s_n0_c2 : vw0.cell? ⟨w.heap.size + 1 + 1, 2, none⟩ = some (.slice none 0 0) := (Ns_0.cell 2).trans rfl
  have s_n0_f2 := Ns_0.frozen 2
  have s_n0_c3 : vw0.cell? ⟨w.heap.size + 1 + 1, 3, none⟩ = some (.slice none 0 0) := (Ns_0.cell 3).trans rfl
  have s_n0_f3 := Ns_0.frozen 3
  have s_n0_c4 : vw0.cell? ⟨w.heap.size + 1 + 1, 4, none⟩ = some (.int .i64 0) := (Ns_0.cell 4).trans rfl
  have s_n0_f4 := Ns_0.frozen 4
  have s_n0_c5 : vw0.cell? ⟨w.heap.size + 1 + 1, 5, none⟩ = some (.slice none 0 0) := (Ns_0.cell 5).trans rfl
  have s_n0_f5 := Ns_0.frozen 5
  have a_n0_z : w.heap.size + 1 + 1 + 1 < vw0.heap.size := Na_0.lt
  have a_n0_c0 : vw0.cell? ⟨w.heap.size + 1 + 1 + 1, 0, none⟩ = some (.int .i64 I.kind) := (Na_0.cell 0).trans rfl
  have a_n0_f0 := Na_0.frozen 0
  have a_n0_c1 : vw0.cell? ⟨w.heap.size + 1 + 1 + 1, 1, none⟩ = some (.int .i64 I.cap) := (Na_0.cell 1).trans rfl
  have a_n0_f1 := Na_0.frozen 1
  have a_n0_c2 : vw0.cell? ⟨w.heap.size + 1 + 1 + 1, 2, none⟩ = some (.slice none 0 0) := (Na_0.cell 2).trans rfl
  have a_n0_f2 := Na_0.frozen 2
  have a_n0_c3 : vw0.cell? ⟨w.heap.size + 1 + 1 + 1, 3, none⟩ = some (.slice none 0 0) := (Na_0.cell 3).trans rfl
  have a_n0_f3 := Na_0.frozen 3
  have a_n0_c4 : vw0.cell? ⟨w.heap.size + 1 + 1 + 1, 4, none⟩ = some (.int .i64 I.size) := (Na_0.cell 4).trans rfl
  have a_n0_f4 := Na_0.frozen 4
  have a_n0_c5 : vw0.cell? ⟨w.heap.size + 1 + 1 + 1, 5, none⟩ = some (.slice none 0 0) := (Na_0.cell 5).trans rfl
  have a_n0_f5 := Na_0.frozen 5
  have b_n0_z : w.heap.size + 1 + 1 + 1 + 1 < vw0.heap.size := Nb_0.lt
  have b_n0_c0 : vw0.cell? ⟨w.heap.size + 1 + 1 + 1 + 1, 0, none⟩ = some (.int .i64 I.kind) := (Nb_0.cell 0).trans rfl
  have b_n0_f0 := Nb_0.frozen 0
  have b_n0_c1 : vw0.cell? ⟨w.heap.size + 1 + 1 + 1 + 1, 1, none⟩ = some (.int .i64 I.cap) := (Nb_0.cell 1).trans rfl
  have b_n0_f1 := Nb_0.frozen 1
  have b_n0_c2 : vw0.cell? ⟨w.heap.size + 1 + 1 + 1 + 1, 2, none⟩ = some (.slice none 0 0) := (Nb_0.cell 2).trans rfl
  have b_n0_f2 := Nb_0.frozen 2
  have b_n0_c3 : vw0.cell? ⟨w.heap.size + 1 + 1 + 1 + 1, 3, none⟩ = some (.slice none 0 0) := (Nb_0.cell 3).trans rfl
  have b_n0_f3 := Nb_0.frozen 3
  have b_n0_c4 : vw0.cell? ⟨w.heap.size + 1 + 1 + 1 + 1, 4, none⟩ = some (.int .i64 I.size) := (Nb_0.cell 4).trans rfl
  have b_n0_f4 := Nb_0.frozen 4
  have b_n0_c5 : vw0.cell? ⟨w.heap.size + 1 + 1 + 1 + 1, 5, none⟩ = some (.slice none 0 0) := (Nb_0.cell 5).trans rfl
  have b_n0_f5 := Nb_0.frozen 5
  have HR : IsR vw0 w I A1 A2 A3 c1 c2 c3 (cutI I 0 0 0) (cutI I 0 0 0) (.slice none 0 0) (.slice none 0 0) (.slice none 0 0) (.slice none 0 0) (.slice none 0 0) (.slice none 0 0) (.slice none 0 0) (.slice none 0 0) (.slice none 0 0) (.slice none 0 0) (.slice none 0 0) (.slice none 0 0) := by
    have hz : ∀ l : List (List Int), l.take 0 = [] := fun l => rfl
    exact ⟨⟨own_nil _ _ _ _, ⟨[], rfl, own_nil _ _ _ _, fun i r u a b => by simp at b⟩, ⟨[], rfl, own_nil _ _ _ _, fun i r u a b => by simp at b⟩, own_nil _ _ _ _, ⟨[], rfl, own_nil _ _ _ _, fun i r u a b => by simp at b⟩, ⟨[], rfl, own_nil _ _ _ _, fun i r u a b => by simp at b⟩, fun g h => by simp [Value.ownBlock] at h⟩, Ni_0, Nr_0, Ns_0, Na_0, Nb_0, bl0⟩
  replace HR := Lib.hid HR
  clear Ni_0 Nr_0 Ns_0 Na_0 Nb_0 bl0
  go_wp2_with fail
  clear i_n0_z i_n0_c0 i_n0_f0 i_n0_c1 i_n0_f1 i_n0_c2 i_n0_f2 i_n0_c3 i_n0_f3 i_n0_c4 i_n0_f4 i_n0_c5 i_n0_f5 r_n0_z r_n0_c0 r_n0_f0 r_n0_c1 r_n0_f1 r_n0_c2 r_n0_f2 r_n0_c3 r_n0_f3 r_n0_c4 r_n0_f4 r_n0_c5 r_n0_f5 s_n0_z s_n0_c0 s_n0_f0 s_n0_c1 s_n0_f1 s_n0_c2 s_n0_f2 s_n0_c3 s_n0_f3 s_n0_c4 s_n0_f4 s_n0_c5 s_n0_f5 a_n0_z a_n0_c0 a_n0_f0 a_n0_c1 a_n0_f1 a_n0_c2 a_n0_f2 a_n0_c3 a_n0_f3 a_n0_c4 a_n0_f4 a_n0_c5 a_n0_f5 b_n0_z b_n0_c0 b_n0_f0 b_n0_c1 b_n0_f1 b_n0_c2 b_n0_f2 b_n0_c3 b_n0_f3 b_n0_c4 b_n0_f4 b_n0_c5 b_n0_f5
  go_loopw [35] (fun vi wr => ∃ (i : Nat) (v1 u1 : Value), vi = .int .i64 i ∧ i ≤ m1 ∧ Hid (IsR wr w I A1 A2 A3 c1 c2 c3 (cutI I i 0 0) (cutI I i 0 0) v1 (.slice none 0 0) (.slice none 0 0) u1 (.slice none 0 0) (.slice none 0 0) v1 (.slice none 0 0) (.slice none 0 0) u1 (.slice none 0 0) (.slice none 0 0))) (fun vi _ => m1 - (intOf vi).toNat)
  case atStart => exact ⟨0, _, _, rfl, Nat.zero_le _, HR⟩
  case round =>
    clear HR
    obtain ⟨i, v1, u1, rfl, hi, HR⟩ := hrel
    by_cases hlt : i < m1
    · obtain ⟨p, hp⟩ : ∃ p, (I.items.take 40)[i]? = some p := ⟨_, List.getElem?_eq_getElem (by rw [M1.out]; exact hlt)⟩
      have hp1 : I.items[i]? = some p := by rw [List.getElem?_take] at hp; split at hp; exact hp; cases hp
      obtain ⟨b, o, rfl, hbB, hc1, hc2⟩ := (HI.out.items.keep (Alike.of_below HR.out.b HI.out.bd)).get hp1
      have HP := Lib.hid hp
      have i0 : (0 : Int) ≤ (i : Int) := by omega
      have i1 : (i : Int) < (m1 : Int) := by omega
      clear hp hp1
      have a_z : w.heap.size + 1 + 1 + 1 < wr.heap.size := HR.out.ba.lt
      have a_c0 : wr.cell? ⟨w.heap.size + 1 + 1 + 1, 0, none⟩ = some (.int .i64 I.kind) := (HR.out.ba.cell 0).trans rfl
      have a_f0 := HR.out.ba.frozen 0
      have a_c1 : wr.cell? ⟨w.heap.size + 1 + 1 + 1, 1, none⟩ = some (.int .i64 I.cap) := (HR.out.ba.cell 1).trans rfl
      have a_f1 := HR.out.ba.frozen 1
      have a_c2 : wr.cell? ⟨w.heap.size + 1 + 1 + 1, 2, none⟩ = some (v1) := (HR.out.ba.cell 2).trans rfl
      have a_f2 := HR.out.ba.frozen 2
      have a_c3 : wr.cell? ⟨w.heap.size + 1 + 1 + 1, 3, none⟩ = some (.slice none 0 0) := (HR.out.ba.cell 3).trans rfl
      have a_f3 := HR.out.ba.frozen 3
      have a_c4 : wr.cell? ⟨w.heap.size + 1 + 1 + 1, 4, none⟩ = some (.int .i64 I.size) := (HR.out.ba.cell 4).trans rfl
      have a_f4 := HR.out.ba.frozen 4
      have a_c5 : wr.cell? ⟨w.heap.size + 1 + 1 + 1, 5, none⟩ = some (.slice none 0 0) := (HR.out.ba.cell 5).trans rfl
      have a_f5 := HR.out.ba.frozen 5
      have b_z : w.heap.size + 1 + 1 + 1 + 1 < wr.heap.size := HR.out.bb.lt
      have b_c0 : wr.cell? ⟨w.heap.size + 1 + 1 + 1 + 1, 0, none⟩ = some (.int .i64 I.kind) := (HR.out.bb.cell 0).trans rfl
      have b_f0 := HR.out.bb.frozen 0
      have b_c1 : wr.cell? ⟨w.heap.size + 1 + 1 + 1 + 1, 1, none⟩ = some (.int .i64 I.cap) := (HR.out.bb.cell 1).trans rfl
      have b_f1 := HR.out.bb.frozen 1
      have b_c2 : wr.cell? ⟨w.heap.size + 1 + 1 + 1 + 1, 2, none⟩ = some (u1) := (HR.out.bb.cell 2).trans rfl
      have b_f2 := HR.out.bb.frozen 2
      have b_c3 : wr.cell? ⟨w.heap.size + 1 + 1 + 1 + 1, 3, none⟩ = some (.slice none 0 0) := (HR.out.bb.cell 3).trans rfl
      have b_f3 := HR.out.bb.frozen 3
      have b_c4 : wr.cell? ⟨w.heap.size + 1 + 1 + 1 + 1, 4, none⟩ = some (.int .i64 I.size) := (HR.out.bb.cell 4).trans rfl
      have b_f4 := HR.out.bb.frozen 4
      have b_c5 : wr.cell? ⟨w.heap.size + 1 + 1 + 1 + 1, 5, none⟩ = some (.slice none 0 0) := (HR.out.bb.cell 5).trans rfl
      have b_f5 := HR.out.bb.frozen 5
      go_wp2_with fail
      have HS := Lib.hid (HR.out.alloc (.cells #[.int .i64 p.1, .int .i64 p.2] 60))
      have B7 := Blk.new wr 60 #[.int .i64 p.1, .int .i64 p.2]
      have nv : ∀ k, wr.heap.size ≤ k → some k ≠ v1.ownBlock := fun k hk e => by have := own_sz HR.out.rows.a1 k e.symm; omega
      have nu : ∀ k, wr.heap.size ≤ k → some k ≠ u1.ownBlock := fun k hk e => by have := own_sz HR.out.rows.b1 k e.symm; omega
      have hln : (cutI I i 0 0).items.length ≤ 70 := by simp only [cutI, List.length_take]; omega
      clear HR a_z a_c0 a_f0 a_c1 a_f1 a_c2 a_f2 a_c3 a_f3 a_c4 a_f4 a_c5 a_f5 b_z b_c0 b_f0 b_c1 b_f1 b_c2 b_f2 b_c3 b_f3 b_c4 b_f4 b_c5 b_f5
      generalize wr.alloc (.cells #[.int .i64 p.1, .int .i64 p.2] 60) = wq at HS B7 ⊢
      have g7 := B7.lt
      refine wp_region_pre (S := fun w' => w'.cell? ⟨w.heap.size + 1 + 1 + 1, 2, none⟩ = some v1 ∧ w'.cell? ⟨w.heap.size + 1 + 1 + 1 + 1, 2, none⟩ = some u1 ∧ w'.cell? ⟨wr.heap.size, 0, none⟩ = some (.int .i64 p.1) ∧ w'.cell? ⟨wr.heap.size, 1, none⟩ = some (.int .i64 p.2)) 15 (by kernel_rfl) (by kernel_rfl) ?_ (fun hH0 => ?_)
      · exact ⟨((HS.out.drew).ba.cell 2).trans rfl, ((HS.out.drew).bb.cell 2).trans rfl, ((B7.drew).cell 0).trans rfl, ((B7.drew).cell 1).trans rfl⟩
      refine PreG.take (i := 0) (v := ?vv33) rfl (by kernel_rfl) (by kernel_rfl) (fun _ _ _ h => h) (Or.inl ⟨by rfl, ?hy33⟩) (by assumption) ?rest33
      case hy33 => intro w hSw; (try dsimp only at hSw); first | (go_simp; done) | (go_simp; with_reducible rfl)
      try simp only [Act.put, List.getElem_toArray, List.getElem_cons_zero, List.getElem_cons_succ, List.setIfInBounds_toArray, List.set_cons_zero, List.set_cons_succ]
      refine PreG.take (i := 1) (v := ?vv34) rfl (by kernel_rfl) (by kernel_rfl) (fun _ _ _ h => h) (Or.inl ⟨by rfl, ?hy34⟩) (by assumption) ?rest34
      case hy34 => intro w hSw; (try dsimp only at hSw); first | (go_simp; done) | (go_simp; with_reducible rfl)
      try simp only [Act.put, List.getElem_toArray, List.getElem_cons_zero, List.getElem_cons_succ, List.setIfInBounds_toArray, List.set_cons_zero, List.set_cons_succ]
      refine PreG.take (i := 2) (v := ?vv35) rfl (by kernel_rfl) (by kernel_rfl) (fun _ _ _ h => h) (Or.inl ⟨by rfl, ?hy35⟩) (by assumption) ?rest35
      case hy35 => intro w hSw; (try dsimp only at hSw); first | (go_simp; done) | (go_simp; with_reducible rfl)
      try simp only [Act.put, List.getElem_toArray, List.getElem_cons_zero, List.getElem_cons_succ, List.setIfInBounds_toArray, List.set_cons_zero, List.set_cons_succ]
      refine PreG.take (i := 3) (v := ?vv36) rfl (by kernel_rfl) (by kernel_rfl) (fun _ _ _ h => h) (Or.inl ⟨by rfl, ?hy36⟩) (by assumption) ?rest36
      case hy36 => intro w hSw; (try dsimp only at hSw); first | (go_simp; done) | (go_simp; with_reducible rfl)
      try simp only [Act.put, List.getElem_toArray, List.getElem_cons_zero, List.getElem_cons_succ, List.setIfInBounds_toArray, List.set_cons_zero, List.set_cons_succ]
      refine PreG.take (i := 4) (v := ?vv37) rfl (by kernel_rfl) (by kernel_rfl) (fun _ _ _ h => h) (Or.inl ⟨by rfl, ?hy37⟩) (by assumption) ?rest37
      case hy37 => intro w hSw; (try dsimp only at hSw); first | (go_simp; done) | (go_simp; with_reducible rfl)
      try simp only [Act.put, List.getElem_toArray, List.getElem_cons_zero, List.getElem_cons_succ, List.setIfInBounds_toArray, List.set_cons_zero, List.set_cons_succ]
      refine PreG.take (i := 5) (v := ?vv38) rfl (by kernel_rfl) (by kernel_rfl) (fun _ _ _ h => h) (Or.inl ⟨by rfl, ?hy38⟩) (by assumption) ?rest38
      case hy38 => intro w hSw; (try dsimp only at hSw); first | (go_simp; done) | (go_simp; with_reducible rfl)
      try simp only [Act.put, List.getElem_toArray, List.getElem_cons_zero, List.getElem_cons_succ, List.setIfInBounds_toArray, List.set_cons_zero, List.set_cons_succ]
      refine PreG.take (i := 6) (v := ?vv39) rfl (by kernel_rfl) (by kernel_rfl) (fun _ _ _ h => h) (Or.inl ⟨by rfl, ?hy39⟩) (by assumption) ?rest39
      case hy39 => intro w hSw; (try dsimp only at hSw); first | (go_simp; done) | (go_simp; with_reducible rfl)
      try simp only [Act.put, List.getElem_toArray, List.getElem_cons_zero, List.getElem_cons_succ, List.setIfInBounds_toArray, List.set_cons_zero, List.set_cons_succ]
      refine PreG.take (i := 9) (v := ?vv40) rfl (by kernel_rfl) (by kernel_rfl) (fun _ _ _ h => h) (Or.inl ⟨by rfl, ?hy40⟩) (by assumption) ?rest40
      case hy40 => intro w hSw; (try dsimp only at hSw); first | (go_simp; done) | (go_simp; with_reducible rfl)
      try simp only [Act.put, List.getElem_toArray, List.getElem_cons_zero, List.getElem_cons_succ, List.setIfInBounds_toArray, List.set_cons_zero, List.set_cons_succ]
      refine PreG.take (i := 10) (v := ?vv41) rfl (by kernel_rfl) (by kernel_rfl) (fun _ _ _ h => h) (Or.inl ⟨by rfl, ?hy41⟩) (by assumption) ?rest41
      case hy41 => intro w hSw; (try dsimp only at hSw); first | (go_simp; done) | (go_simp; with_reducible rfl)
      try simp only [Act.put, List.getElem_toArray, List.getElem_cons_zero, List.getElem_cons_succ, List.setIfInBounds_toArray, List.set_cons_zero, List.set_cons_succ]
      refine PreG.take (i := 11) (v := ?vv42) rfl (by kernel_rfl) (by kernel_rfl) (fun _ _ _ h => h) (Or.inl ⟨by rfl, ?hy42⟩) (by assumption) ?rest42
      case hy42 => intro w hSw; (try dsimp only at hSw); first | (go_simp; done) | (go_simp; with_reducible rfl)
      try simp only [Act.put, List.getElem_toArray, List.getElem_cons_zero, List.getElem_cons_succ, List.setIfInBounds_toArray, List.set_cons_zero, List.set_cons_succ]
      refine PreG.ready (rs := [7, 12]) (by kernel_rfl) (by kernel_rfl) ?_
      refine AllPre.cons rfl (fun K hK => ?_) ?_
      · go_simp
        refine hK.out _ _ ?_ (fun hH1 => ?_)
        · exact ⟨(((HS.out.alloc _).drew).ba.cell 2).trans rfl, (((HS.out.alloc _).drew).bb.cell 2).trans rfl, (((B7.alloc _).drew).cell 0).trans rfl, (((B7.alloc _).drew).cell 1).trans rfl⟩
        clear hK K hH0
        try simp only [Act.put, List.getElem_toArray, List.getElem_cons_zero, List.getElem_cons_succ, List.setIfInBounds_toArray, List.set_cons_zero, List.set_cons_succ]
        refine PreG.ready (rs := [8, 12]) (by kernel_rfl) (by kernel_rfl) ?_
        refine AllPre.cons rfl (fun K hK => ?_) ?_
        · obtain ⟨D44, d44, X44, ra44, HA44, ga44⟩ := IsR.runA1 ((HS.out.alloc _).drew) (p := p) (t := _) ((Blk.new' (b := wq.heap.size) (by simp) _ _).drew) hln 30
          refine step_run rfl (.tmp 40) (.tmp 46) 30 rfl (by exact ra44) ?_
          have Bt_44 := (((B7.alloc _).drew).grown ga44 (nv _ (Nat.le_refl _)))
          refine hK.out _ _ ?_ (fun hH2 => ?_)
          · exact ⟨(HA44.ba.cell 2).trans rfl, (HA44.bb.cell 2).trans rfl, (Bt_44.cell 0).trans rfl, (Bt_44.cell 1).trans rfl⟩
          clear hK K hH1
          try simp only [Act.put, List.getElem_toArray, List.getElem_cons_zero, List.getElem_cons_succ, List.setIfInBounds_toArray, List.set_cons_zero, List.set_cons_succ]
          refine PreG.take (i := 14) (v := ?vv45) rfl (by kernel_rfl) (by kernel_rfl) (fun _ _ _ h => h) (Or.inl ⟨by rfl, ?hy45⟩) (by assumption) ?rest45
          case hy45 => intro w hSw; (try dsimp only at hSw); first | (go_simp; done) | (go_simp; with_reducible rfl)
          try simp only [Act.put, List.getElem_toArray, List.getElem_cons_zero, List.getElem_cons_succ, List.setIfInBounds_toArray, List.set_cons_zero, List.set_cons_succ]
          refine PreG.ready (rs := [12]) (by kernel_rfl) (by kernel_rfl) ?_
          refine AllPre.cons rfl (fun K hK => ?_) ?_
          · go_simp
            refine hK.out _ _ ?_ (fun hH3 => ?_)
            · exact ⟨((HA44.alloc _).ba.cell 2).trans rfl, ((HA44.alloc _).bb.cell 2).trans rfl, ((Bt_44.alloc _).cell 0).trans rfl, ((Bt_44.alloc _).cell 1).trans rfl⟩
            clear hK K hH2
            try simp only [Act.put, List.getElem_toArray, List.getElem_cons_zero, List.getElem_cons_succ, List.setIfInBounds_toArray, List.set_cons_zero, List.set_cons_succ]
            refine PreG.ready (rs := [13]) (by kernel_rfl) (by kernel_rfl) ?_
            refine AllPre.cons rfl (fun K hK => ?_) ?_
            · obtain ⟨D47, d47, X47, ra47, HA47, ga47⟩ := IsR.runB1 (HA44.alloc _) (p := p) (t := _) (Blk.new' (b := X44.heap.size) (by simp) _ _) hln 22
              refine step_run rfl (.tmp 49) (.tmp 51) 22 rfl (by exact ra47) ?_
              have Bt_47 := ((Bt_44.alloc _).grown ga47 (nu _ (Nat.le_refl _)))
              refine hK.out _ _ ?_ (fun hH4 => ?_)
              · exact ⟨(HA47.ba.cell 2).trans rfl, (HA47.bb.cell 2).trans rfl, (Bt_47.cell 0).trans rfl, (Bt_47.cell 1).trans rfl⟩
              clear hK K hH3
              try simp only [Act.put, List.getElem_toArray, List.getElem_cons_zero, List.getElem_cons_succ, List.setIfInBounds_toArray, List.set_cons_zero, List.set_cons_succ]
              refine PreG.done (by kernel_rfl) ?_
              simp only [List.drop_succ_cons, List.drop_zero]
              clear hH4
              have f_z : w.heap.size + 1 + 1 + 1 < X47.heap.size := HA47.ba.lt
              have f_c0 : X47.cell? ⟨w.heap.size + 1 + 1 + 1, 0, none⟩ = some (.int .i64 I.kind) := (HA47.ba.cell 0).trans rfl
              have f_f0 := HA47.ba.frozen 0
              have f_c1 : X47.cell? ⟨w.heap.size + 1 + 1 + 1, 1, none⟩ = some (.int .i64 I.cap) := (HA47.ba.cell 1).trans rfl
              have f_f1 := HA47.ba.frozen 1
              have f_c2 : X47.cell? ⟨w.heap.size + 1 + 1 + 1, 2, none⟩ = some (v1) := (HA47.ba.cell 2).trans rfl
              have f_f2 := HA47.ba.frozen 2
              have f_c3 : X47.cell? ⟨w.heap.size + 1 + 1 + 1, 3, none⟩ = some (.slice none 0 0) := (HA47.ba.cell 3).trans rfl
              have f_f3 := HA47.ba.frozen 3
              have f_c4 : X47.cell? ⟨w.heap.size + 1 + 1 + 1, 4, none⟩ = some (.int .i64 I.size) := (HA47.ba.cell 4).trans rfl
              have f_f4 := HA47.ba.frozen 4
              have f_c5 : X47.cell? ⟨w.heap.size + 1 + 1 + 1, 5, none⟩ = some (.slice none 0 0) := (HA47.ba.cell 5).trans rfl
              have f_f5 := HA47.ba.frozen 5
              have g_z : w.heap.size + 1 + 1 + 1 + 1 < X47.heap.size := HA47.bb.lt
              have g_c0 : X47.cell? ⟨w.heap.size + 1 + 1 + 1 + 1, 0, none⟩ = some (.int .i64 I.kind) := (HA47.bb.cell 0).trans rfl
              have g_f0 := HA47.bb.frozen 0
              have g_c1 : X47.cell? ⟨w.heap.size + 1 + 1 + 1 + 1, 1, none⟩ = some (.int .i64 I.cap) := (HA47.bb.cell 1).trans rfl
              have g_f1 := HA47.bb.frozen 1
              have g_c2 : X47.cell? ⟨w.heap.size + 1 + 1 + 1 + 1, 2, none⟩ = some (u1) := (HA47.bb.cell 2).trans rfl
              have g_f2 := HA47.bb.frozen 2
              have g_c3 : X47.cell? ⟨w.heap.size + 1 + 1 + 1 + 1, 3, none⟩ = some (.slice none 0 0) := (HA47.bb.cell 3).trans rfl
              have g_f3 := HA47.bb.frozen 3
              have g_c4 : X47.cell? ⟨w.heap.size + 1 + 1 + 1 + 1, 4, none⟩ = some (.int .i64 I.size) := (HA47.bb.cell 4).trans rfl
              have g_f4 := HA47.bb.frozen 4
              have g_c5 : X47.cell? ⟨w.heap.size + 1 + 1 + 1 + 1, 5, none⟩ = some (.slice none 0 0) := (HA47.bb.cell 5).trans rfl
              have g_f5 := HA47.bb.frozen 5
              go_wp2_with fail
              go_roundw
              case rel =>
                have HF := (HA47.putA 2 (.slice D44 ((cutI I i 0 0).items.length + 1) d44) rfl).putB 2 (.slice D47 ((cutI I i 0 0).items.length + 1) d47) rfl
                rw [cut_items HP.out] at HF
                exact ⟨i + 1, (.slice D44 ((cutI I i 0 0).items.length + 1) d44), (.slice D47 ((cutI I i 0 0).items.length + 1) d47), by go_num, by omega, Lib.hid HF⟩
              case measure => simp only [intOf]; omega
            exact AllPre.nil
          exact AllPre.nil
        refine AllPre.cons rfl (fun K hK => ?_) ?_
        · go_simp
          refine hK.out _ _ ?_ (fun hH2 => ?_)
          · exact ⟨((((HS.out.alloc _).alloc _).drew).ba.cell 2).trans rfl, ((((HS.out.alloc _).alloc _).drew).bb.cell 2).trans rfl, ((((B7.alloc _).alloc _).drew).cell 0).trans rfl, ((((B7.alloc _).alloc _).drew).cell 1).trans rfl⟩
          clear hK K hH1
          try simp only [Act.put, List.getElem_toArray, List.getElem_cons_zero, List.getElem_cons_succ, List.setIfInBounds_toArray, List.set_cons_zero, List.set_cons_succ]
          refine PreG.ready (rs := [8]) (by kernel_rfl) (by kernel_rfl) ?_
          refine AllPre.cons rfl (fun K hK => ?_) ?_
          · obtain ⟨D49, d49, X49, ra49, HA49, ga49⟩ := IsR.runA1 (((HS.out.alloc _).alloc _).drew) (p := p) (t := _) (((Blk.new' (b := wq.heap.size) (by simp) _ _).alloc _).drew) hln 30
            refine step_run rfl (.tmp 40) (.tmp 46) 30 rfl (by exact ra49) ?_
            have Bq_49 := (((Blk.new' (b := wq.heap.size + 1) (by simp) _ _).drew).grown ga49 (nv _ (by omega)))
            have Bt_49 := ((((B7.alloc _).alloc _).drew).grown ga49 (nv _ (Nat.le_refl _)))
            refine hK.out _ _ ?_ (fun hH3 => ?_)
            · exact ⟨(HA49.ba.cell 2).trans rfl, (HA49.bb.cell 2).trans rfl, (Bt_49.cell 0).trans rfl, (Bt_49.cell 1).trans rfl⟩
            clear hK K hH2
            try simp only [Act.put, List.getElem_toArray, List.getElem_cons_zero, List.getElem_cons_succ, List.setIfInBounds_toArray, List.set_cons_zero, List.set_cons_succ]
            refine PreG.take (i := 14) (v := ?vv50) rfl (by kernel_rfl) (by kernel_rfl) (fun _ _ _ h => h) (Or.inl ⟨by rfl, ?hy50⟩) (by assumption) ?rest50
            case hy50 => intro w hSw; (try dsimp only at hSw); first | (go_simp; done) | (go_simp; with_reducible rfl)
            try simp only [Act.put, List.getElem_toArray, List.getElem_cons_zero, List.getElem_cons_succ, List.setIfInBounds_toArray, List.set_cons_zero, List.set_cons_succ]
            refine PreG.ready (rs := [13]) (by kernel_rfl) (by kernel_rfl) ?_
            refine AllPre.cons rfl (fun K hK => ?_) ?_
            · obtain ⟨D51, d51, X51, ra51, HA51, ga51⟩ := IsR.runB1 HA49 (p := p) (t := _) Bq_49 hln 22
              refine step_run rfl (.tmp 49) (.tmp 51) 22 rfl (by exact ra51) ?_
              have Bt_51 := (Bt_49.grown ga51 (nu _ (Nat.le_refl _)))
              refine hK.out _ _ ?_ (fun hH4 => ?_)
              · exact ⟨(HA51.ba.cell 2).trans rfl, (HA51.bb.cell 2).trans rfl, (Bt_51.cell 0).trans rfl, (Bt_51.cell 1).trans rfl⟩
              clear hK K hH3
              try simp only [Act.put, List.getElem_toArray, List.getElem_cons_zero, List.getElem_cons_succ, List.setIfInBounds_toArray, List.set_cons_zero, List.set_cons_succ]
              refine PreG.done (by kernel_rfl) ?_
              simp only [List.drop_succ_cons, List.drop_zero]
              clear hH4
              have f_z : w.heap.size + 1 + 1 + 1 < X51.heap.size := HA51.ba.lt
              have f_c0 : X51.cell? ⟨w.heap.size + 1 + 1 + 1, 0, none⟩ = some (.int .i64 I.kind) := (HA51.ba.cell 0).trans rfl
              have f_f0 := HA51.ba.frozen 0
              have f_c1 : X51.cell? ⟨w.heap.size + 1 + 1 + 1, 1, none⟩ = some (.int .i64 I.cap) := (HA51.ba.cell 1).trans rfl
              have f_f1 := HA51.ba.frozen 1
              have f_c2 : X51.cell? ⟨w.heap.size + 1 + 1 + 1, 2, none⟩ = some (v1) := (HA51.ba.cell 2).trans rfl
              have f_f2 := HA51.ba.frozen 2
              have f_c3 : X51.cell? ⟨w.heap.size + 1 + 1 + 1, 3, none⟩ = some (.slice none 0 0) := (HA51.ba.cell 3).trans rfl
              have f_f3 := HA51.ba.frozen 3
              have f_c4 : X51.cell? ⟨w.heap.size + 1 + 1 + 1, 4, none⟩ = some (.int .i64 I.size) := (HA51.ba.cell 4).trans rfl
              have f_f4 := HA51.ba.frozen 4
              have f_c5 : X51.cell? ⟨w.heap.size + 1 + 1 + 1, 5, none⟩ = some (.slice none 0 0) := (HA51.ba.cell 5).trans rfl
              have f_f5 := HA51.ba.frozen 5
              have g_z : w.heap.size + 1 + 1 + 1 + 1 < X51.heap.size := HA51.bb.lt
              have g_c0 : X51.cell? ⟨w.heap.size + 1 + 1 + 1 + 1, 0, none⟩ = some (.int .i64 I.kind) := (HA51.bb.cell 0).trans rfl
              have g_f0 := HA51.bb.frozen 0
              have g_c1 : X51.cell? ⟨w.heap.size + 1 + 1 + 1 + 1, 1, none⟩ = some (.int .i64 I.cap) := (HA51.bb.cell 1).trans rfl
              have g_f1 := HA51.bb.frozen 1
              have g_c2 : X51.cell? ⟨w.heap.size + 1 + 1 + 1 + 1, 2, none⟩ = some (u1) := (HA51.bb.cell 2).trans rfl
              have g_f2 := HA51.bb.frozen 2
              have g_c3 : X51.cell? ⟨w.heap.size + 1 + 1 + 1 + 1, 3, none⟩ = some (.slice none 0 0) := (HA51.bb.cell 3).trans rfl
              have g_f3 := HA51.bb.frozen 3
              have g_c4 : X51.cell? ⟨w.heap.size + 1 + 1 + 1 + 1, 4, none⟩ = some (.int .i64 I.size) := (HA51.bb.cell 4).trans rfl
              have g_f4 := HA51.bb.frozen 4
              have g_c5 : X51.cell? ⟨w.heap.size + 1 + 1 + 1 + 1, 5, none⟩ = some (.slice none 0 0) := (HA51.bb.cell 5).trans rfl
              have g_f5 := HA51.bb.frozen 5
              go_wp2_with fail
              go_roundw
              case rel =>
                have HF := (HA51.putA 2 (.slice D49 ((cutI I i 0 0).items.length + 1) d49) rfl).putB 2 (.slice D51 ((cutI I i 0 0).items.length + 1) d51) rfl
                rw [cut_items HP.out] at HF
                exact ⟨i + 1, (.slice D49 ((cutI I i 0 0).items.length + 1) d49), (.slice D51 ((cutI I i 0 0).items.length + 1) d51), by go_num, by omega, Lib.hid HF⟩
              case measure => simp only [intOf]; omega
            exact AllPre.nil
          exact AllPre.nil
        exact AllPre.nil
      refine AllPre.cons rfl (fun K hK => ?_) ?_
      · go_simp
        refine hK.out _ _ ?_ (fun hH1 => ?_)
        · exact ⟨(((HS.out.alloc _).drew).ba.cell 2).trans rfl, (((HS.out.alloc _).drew).bb.cell 2).trans rfl, (((B7.alloc _).drew).cell 0).trans rfl, (((B7.alloc _).drew).cell 1).trans rfl⟩
        clear hK K hH0
        try simp only [Act.put, List.getElem_toArray, List.getElem_cons_zero, List.getElem_cons_succ, List.setIfInBounds_toArray, List.set_cons_zero, List.set_cons_succ]
        refine PreG.ready (rs := [7]) (by kernel_rfl) (by kernel_rfl) ?_
        refine AllPre.cons rfl (fun K hK => ?_) ?_
        · go_simp
          refine hK.out _ _ ?_ (fun hH2 => ?_)
          · exact ⟨((((HS.out.alloc _).alloc _).drew).ba.cell 2).trans rfl, ((((HS.out.alloc _).alloc _).drew).bb.cell 2).trans rfl, ((((B7.alloc _).alloc _).drew).cell 0).trans rfl, ((((B7.alloc _).alloc _).drew).cell 1).trans rfl⟩
          clear hK K hH1
          try simp only [Act.put, List.getElem_toArray, List.getElem_cons_zero, List.getElem_cons_succ, List.setIfInBounds_toArray, List.set_cons_zero, List.set_cons_succ]
          refine PreG.ready (rs := [8]) (by kernel_rfl) (by kernel_rfl) ?_
          refine AllPre.cons rfl (fun K hK => ?_) ?_
          · obtain ⟨D54, d54, X54, ra54, HA54, ga54⟩ := IsR.runA1 (((HS.out.alloc _).alloc _).drew) (p := p) (t := _) ((Blk.new' (b := wq.heap.size + 1) (by simp) _ _).drew) hln 30
            refine step_run rfl (.tmp 40) (.tmp 46) 30 rfl (by exact ra54) ?_
            have Bq_54 := ((((Blk.new' (b := wq.heap.size) (by simp) _ _).alloc _).drew).grown ga54 (nv _ (by omega)))
            have Bt_54 := ((((B7.alloc _).alloc _).drew).grown ga54 (nv _ (Nat.le_refl _)))
            refine hK.out _ _ ?_ (fun hH3 => ?_)
            · exact ⟨(HA54.ba.cell 2).trans rfl, (HA54.bb.cell 2).trans rfl, (Bt_54.cell 0).trans rfl, (Bt_54.cell 1).trans rfl⟩
            clear hK K hH2
            try simp only [Act.put, List.getElem_toArray, List.getElem_cons_zero, List.getElem_cons_succ, List.setIfInBounds_toArray, List.set_cons_zero, List.set_cons_succ]
            refine PreG.take (i := 14) (v := ?vv55) rfl (by kernel_rfl) (by kernel_rfl) (fun _ _ _ h => h) (Or.inl ⟨by rfl, ?hy55⟩) (by assumption) ?rest55
            case hy55 => intro w hSw; (try dsimp only at hSw); first | (go_simp; done) | (go_simp; with_reducible rfl)
            try simp only [Act.put, List.getElem_toArray, List.getElem_cons_zero, List.getElem_cons_succ, List.setIfInBounds_toArray, List.set_cons_zero, List.set_cons_succ]
            refine PreG.ready (rs := [13]) (by kernel_rfl) (by kernel_rfl) ?_
            refine AllPre.cons rfl (fun K hK => ?_) ?_
            · obtain ⟨D56, d56, X56, ra56, HA56, ga56⟩ := IsR.runB1 HA54 (p := p) (t := _) Bq_54 hln 22
              refine step_run rfl (.tmp 49) (.tmp 51) 22 rfl (by exact ra56) ?_
              have Bt_56 := (Bt_54.grown ga56 (nu _ (Nat.le_refl _)))
              refine hK.out _ _ ?_ (fun hH4 => ?_)
              · exact ⟨(HA56.ba.cell 2).trans rfl, (HA56.bb.cell 2).trans rfl, (Bt_56.cell 0).trans rfl, (Bt_56.cell 1).trans rfl⟩
              clear hK K hH3
              try simp only [Act.put, List.getElem_toArray, List.getElem_cons_zero, List.getElem_cons_succ, List.setIfInBounds_toArray, List.set_cons_zero, List.set_cons_succ]
              refine PreG.done (by kernel_rfl) ?_
              simp only [List.drop_succ_cons, List.drop_zero]
              clear hH4
              have f_z : w.heap.size + 1 + 1 + 1 < X56.heap.size := HA56.ba.lt
              have f_c0 : X56.cell? ⟨w.heap.size + 1 + 1 + 1, 0, none⟩ = some (.int .i64 I.kind) := (HA56.ba.cell 0).trans rfl
              have f_f0 := HA56.ba.frozen 0
              have f_c1 : X56.cell? ⟨w.heap.size + 1 + 1 + 1, 1, none⟩ = some (.int .i64 I.cap) := (HA56.ba.cell 1).trans rfl
              have f_f1 := HA56.ba.frozen 1
              have f_c2 : X56.cell? ⟨w.heap.size + 1 + 1 + 1, 2, none⟩ = some (v1) := (HA56.ba.cell 2).trans rfl
              have f_f2 := HA56.ba.frozen 2
              have f_c3 : X56.cell? ⟨w.heap.size + 1 + 1 + 1, 3, none⟩ = some (.slice none 0 0) := (HA56.ba.cell 3).trans rfl
              have f_f3 := HA56.ba.frozen 3
              have f_c4 : X56.cell? ⟨w.heap.size + 1 + 1 + 1, 4, none⟩ = some (.int .i64 I.size) := (HA56.ba.cell 4).trans rfl
              have f_f4 := HA56.ba.frozen 4
              have f_c5 : X56.cell? ⟨w.heap.size + 1 + 1 + 1, 5, none⟩ = some (.slice none 0 0) := (HA56.ba.cell 5).trans rfl
              have f_f5 := HA56.ba.frozen 5
              have g_z : w.heap.size + 1 + 1 + 1 + 1 < X56.heap.size := HA56.bb.lt
              have g_c0 : X56.cell? ⟨w.heap.size + 1 + 1 + 1 + 1, 0, none⟩ = some (.int .i64 I.kind) := (HA56.bb.cell 0).trans rfl
              have g_f0 := HA56.bb.frozen 0
              have g_c1 : X56.cell? ⟨w.heap.size + 1 + 1 + 1 + 1, 1, none⟩ = some (.int .i64 I.cap) := (HA56.bb.cell 1).trans rfl
              have g_f1 := HA56.bb.frozen 1
              have g_c2 : X56.cell? ⟨w.heap.size + 1 + 1 + 1 + 1, 2, none⟩ = some (u1) := (HA56.bb.cell 2).trans rfl
              have g_f2 := HA56.bb.frozen 2
              have g_c3 : X56.cell? ⟨w.heap.size + 1 + 1 + 1 + 1, 3, none⟩ = some (.slice none 0 0) := (HA56.bb.cell 3).trans rfl
              have g_f3 := HA56.bb.frozen 3
              have g_c4 : X56.cell? ⟨w.heap.size + 1 + 1 + 1 + 1, 4, none⟩ = some (.int .i64 I.size) := (HA56.bb.cell 4).trans rfl
              have g_f4 := HA56.bb.frozen 4
              have g_c5 : X56.cell? ⟨w.heap.size + 1 + 1 + 1 + 1, 5, none⟩ = some (.slice none 0 0) := (HA56.bb.cell 5).trans rfl
              have g_f5 := HA56.bb.frozen 5
              go_wp2_with fail
              go_roundw
              case rel =>
                have HF := (HA56.putA 2 (.slice D54 ((cutI I i 0 0).items.length + 1) d54) rfl).putB 2 (.slice D56 ((cutI I i 0 0).items.length + 1) d56) rfl
                rw [cut_items HP.out] at HF
                exact ⟨i + 1, (.slice D54 ((cutI I i 0 0).items.length + 1) d54), (.slice D56 ((cutI I i 0 0).items.length + 1) d56), by go_num, by omega, Lib.hid HF⟩
              case measure => simp only [intOf]; omega
            exact AllPre.nil
          exact AllPre.nil
        exact AllPre.nil
      exact AllPre.nil
    · obtain rfl : i = m1 := by omega
      clear hlt hi
      have p_z : w.heap.size < wr.heap.size := HR.out.par.lt
      have p_c0 : wr.cell? ⟨w.heap.size, 0, none⟩ = some (.int .i64 I.kind) := (HR.out.par.cell 0).trans rfl
      have p_f0 := HR.out.par.frozen 0
      have p_c1 : wr.cell? ⟨w.heap.size, 1, none⟩ = some (.int .i64 I.cap) := (HR.out.par.cell 1).trans rfl
      have p_f1 := HR.out.par.frozen 1
      have p_c2 : wr.cell? ⟨w.heap.size, 2, none⟩ = some (.slice A1 I.items.length c1) := (HR.out.par.cell 2).trans rfl
      have p_f2 := HR.out.par.frozen 2
      have p_c3 : wr.cell? ⟨w.heap.size, 3, none⟩ = some (.slice A2 I.cost.length c2) := (HR.out.par.cell 3).trans rfl
      have p_f3 := HR.out.par.frozen 3
      have p_c4 : wr.cell? ⟨w.heap.size, 4, none⟩ = some (.int .i64 I.size) := (HR.out.par.cell 4).trans rfl
      have p_f4 := HR.out.par.frozen 4
      have p_c5 : wr.cell? ⟨w.heap.size, 5, none⟩ = some (.slice A3 I.sets.length c3) := (HR.out.par.cell 5).trans rfl
      have p_f5 := HR.out.par.frozen 5
      go_wp2_with fail
      clear p_z p_c0 p_f0 p_c1 p_f1 p_c2 p_f2 p_c3 p_f3 p_c4 p_f4 p_c5 p_f5
      go_loopw [64] (fun vj wr => ∃ (j : Nat) (v2 u2 : Value), vj = .int .i64 j ∧ j ≤ m2 ∧ Hid (IsR wr w I A1 A2 A3 c1 c2 c3 (cutI I i j 0) (cutI I i j 0) v1 v2 (.slice none 0 0) u1 u2 (.slice none 0 0) v1 v2 (.slice none 0 0) u1 u2 (.slice none 0 0))) (fun vj _ => m2 - (intOf vj).toNat)
      case atStart => exact ⟨0, _, _, rfl, Nat.zero_le _, HR⟩
      case round =>
        clear HR
        obtain ⟨j, v2, u2, rfl, hj, HR⟩ := hrel
        by_cases hlt : j < m2
        · obtain ⟨r, hr⟩ : ∃ r, (I.cost.take 70)[j]? = some r := ⟨_, List.getElem?_eq_getElem (by rw [M2.out]; exact hlt)⟩
          have hr1 : I.cost[j]? = some r := by rw [List.getElem?_take] at hr; split at hr; exact hr; cases hr
          obtain ⟨b, o, A', c', rfl, hbB, hc1, hrc, hcm, hrd0⟩ := HI.out.cost.get hr1
          have hc1 := (HR.out.b.cell (p := ⟨b, o + j, none⟩) (Nat.lt_of_lt_of_le hbB HI.out.bd)).trans hc1
          have HP := Lib.hid hr
          have HRD := Lib.hid (hrd0.cutq 70)
          obtain ⟨q, hq⟩ : ∃ q, (r.take 70).length = q := ⟨_, rfl⟩
          have Eq : (if (70 : Int) < (r.length : Int) then (70 : Int) else (r.length : Int)) = (q : Int) := by rw [List.length_take] at hq; split <;> omega
          have Bq : q ≤ 70 ∧ q ≤ r.length := by rw [List.length_take] at hq; omega
          have HQ := Lib.hid hq
          have i0 : (0 : Int) ≤ (j : Int) := by omega
          have i1 : (j : Int) < (m2 : Int) := by omega
          have hln : (cutI I i j 0).cost.length ≤ 70 := by simp only [cutI, List.length_map, List.length_take]; omega
          clear hr hr1 hrd0 hq
          go_wp2_with fail
          have a_z : w.heap.size + 1 + 1 + 1 < wr.heap.size := HR.out.ba.lt
          have a_c0 : wr.cell? ⟨w.heap.size + 1 + 1 + 1, 0, none⟩ = some (.int .i64 I.kind) := (HR.out.ba.cell 0).trans rfl
          have a_f0 := HR.out.ba.frozen 0
          have a_c1 : wr.cell? ⟨w.heap.size + 1 + 1 + 1, 1, none⟩ = some (.int .i64 I.cap) := (HR.out.ba.cell 1).trans rfl
          have a_f1 := HR.out.ba.frozen 1
          have a_c2 : wr.cell? ⟨w.heap.size + 1 + 1 + 1, 2, none⟩ = some (v1) := (HR.out.ba.cell 2).trans rfl
          have a_f2 := HR.out.ba.frozen 2
          have a_c3 : wr.cell? ⟨w.heap.size + 1 + 1 + 1, 3, none⟩ = some (v2) := (HR.out.ba.cell 3).trans rfl
          have a_f3 := HR.out.ba.frozen 3
          have a_c4 : wr.cell? ⟨w.heap.size + 1 + 1 + 1, 4, none⟩ = some (.int .i64 I.size) := (HR.out.ba.cell 4).trans rfl
          have a_f4 := HR.out.ba.frozen 4
          have a_c5 : wr.cell? ⟨w.heap.size + 1 + 1 + 1, 5, none⟩ = some (.slice none 0 0) := (HR.out.ba.cell 5).trans rfl
          have a_f5 := HR.out.ba.frozen 5
          have b_z : w.heap.size + 1 + 1 + 1 + 1 < wr.heap.size := HR.out.bb.lt
          have b_c0 : wr.cell? ⟨w.heap.size + 1 + 1 + 1 + 1, 0, none⟩ = some (.int .i64 I.kind) := (HR.out.bb.cell 0).trans rfl
          have b_f0 := HR.out.bb.frozen 0
          have b_c1 : wr.cell? ⟨w.heap.size + 1 + 1 + 1 + 1, 1, none⟩ = some (.int .i64 I.cap) := (HR.out.bb.cell 1).trans rfl
          have b_f1 := HR.out.bb.frozen 1
          have b_c2 : wr.cell? ⟨w.heap.size + 1 + 1 + 1 + 1, 2, none⟩ = some (u1) := (HR.out.bb.cell 2).trans rfl
          have b_f2 := HR.out.bb.frozen 2
          have b_c3 : wr.cell? ⟨w.heap.size + 1 + 1 + 1 + 1, 3, none⟩ = some (u2) := (HR.out.bb.cell 3).trans rfl
          have b_f3 := HR.out.bb.frozen 3
          have b_c4 : wr.cell? ⟨w.heap.size + 1 + 1 + 1 + 1, 4, none⟩ = some (.int .i64 I.size) := (HR.out.bb.cell 4).trans rfl
          have b_f4 := HR.out.bb.frozen 4
          have b_c5 : wr.cell? ⟨w.heap.size + 1 + 1 + 1 + 1, 5, none⟩ = some (.slice none 0 0) := (HR.out.bb.cell 5).trans rfl
          have b_f5 := HR.out.bb.frozen 5
          clear a_z a_c0 a_f0 a_c1 a_f1 a_c2 a_f2 a_c3 a_f3 a_c4 a_f4 a_c5 a_f5 b_z b_c0 b_f0 b_c1 b_f1 b_c2 b_f2 b_c3 b_f3 b_c4 b_f4 b_c5 b_f5
          refine wp_region_pre (S := fun w' => w'.cell? ⟨w.heap.size + 1 + 1 + 1, 3, none⟩ = some v2 ∧ w'.cell? ⟨w.heap.size + 1 + 1 + 1 + 1, 3, none⟩ = some u2) 13 (by kernel_rfl) (by kernel_rfl) ?_ (fun hH0 => ?_)
          · exact ⟨((HR.out.drew).ba.cell 3).trans rfl, ((HR.out.drew).bb.cell 3).trans rfl⟩
          refine PreG.take (i := 0) (v := ?vv1) rfl (by kernel_rfl) (by kernel_rfl) (fun _ _ _ h => h) (Or.inl ⟨by rfl, ?hy1⟩) (by assumption) ?rest1
          case hy1 => intro w hSw; (try dsimp only at hSw); first | (go_simp; done) | (go_simp; with_reducible rfl)
          try simp only [Act.put, List.getElem_toArray, List.getElem_cons_zero, List.getElem_cons_succ, List.setIfInBounds_toArray, List.set_cons_zero, List.set_cons_succ]
          refine PreG.take (i := 1) (v := ?vv2) rfl (by kernel_rfl) (by kernel_rfl) (fun _ _ _ h => h) (Or.inl ⟨by rfl, ?hy2⟩) (by assumption) ?rest2
          case hy2 => intro w hSw; (try dsimp only at hSw); first | (go_simp; done) | (go_simp; with_reducible rfl)
          try simp only [Act.put, List.getElem_toArray, List.getElem_cons_zero, List.getElem_cons_succ, List.setIfInBounds_toArray, List.set_cons_zero, List.set_cons_succ]
          refine PreG.take (i := 2) (v := ?vv3) rfl (by kernel_rfl) (by kernel_rfl) (fun _ _ _ h => h) (Or.inl ⟨by rfl, ?hy3⟩) (by assumption) ?rest3
          case hy3 => intro w hSw; (try dsimp only at hSw); first | (go_simp; done) | (go_simp; with_reducible rfl)
          try simp only [Act.put, List.getElem_toArray, List.getElem_cons_zero, List.getElem_cons_succ, List.setIfInBounds_toArray, List.set_cons_zero, List.set_cons_succ]
          refine PreG.take (i := 6) (v := ?vv4) rfl (by kernel_rfl) (by kernel_rfl) (fun _ _ _ h => h) (Or.inl ⟨by rfl, ?hy4⟩) (by assumption) ?rest4
          case hy4 => intro w hSw; (try dsimp only at hSw); first | (go_simp; done) | (go_simp; with_reducible rfl)
          try simp only [Act.put, List.getElem_toArray, List.getElem_cons_zero, List.getElem_cons_succ, List.setIfInBounds_toArray, List.set_cons_zero, List.set_cons_succ]
          refine PreG.take (i := 7) (v := ?vv5) rfl (by kernel_rfl) (by kernel_rfl) (fun _ _ _ h => h) (Or.inl ⟨by rfl, ?hy5⟩) (by assumption) ?rest5
          case hy5 => intro w hSw; (try dsimp only at hSw); first | (go_simp; done) | (go_simp; with_reducible rfl)
          try simp only [Act.put, List.getElem_toArray, List.getElem_cons_zero, List.getElem_cons_succ, List.setIfInBounds_toArray, List.set_cons_zero, List.set_cons_succ]
          refine PreG.take (i := 8) (v := ?vv6) rfl (by kernel_rfl) (by kernel_rfl) (fun _ _ _ h => h) (Or.inl ⟨by rfl, ?hy6⟩) (by assumption) ?rest6
          case hy6 => intro w hSw; (try dsimp only at hSw); first | (go_simp; done) | (go_simp; with_reducible rfl)
          try simp only [Act.put, List.getElem_toArray, List.getElem_cons_zero, List.getElem_cons_succ, List.setIfInBounds_toArray, List.set_cons_zero, List.set_cons_succ]
          refine PreG.ready (rs := [3]) (by kernel_rfl) (by kernel_rfl) ?_
          refine AllPre.cons rfl (fun K hK => ?_) ?_
          · obtain ⟨D7, d7, X7, ra7, HA7, ow7, nb7⟩ := IsR.runN (HR.out.drew) Tryd.underlying53 info_I HRD.out HI.out.bd HQ.out Bq.1 53
            refine step_run rfl (.const (.slice none 0 0)) (.tmp 75) 53 rfl (by exact ra7) ?_
            refine hK.out _ _ ?_ (fun hH1 => ?_)
            · exact ⟨(HA7.ba.cell 3).trans rfl, (HA7.bb.cell 3).trans rfl⟩
            clear hK K hH0
            try simp only [Act.put, List.getElem_toArray, List.getElem_cons_zero, List.getElem_cons_succ, List.setIfInBounds_toArray, List.set_cons_zero, List.set_cons_succ]
            refine PreG.ready (rs := [4]) (by kernel_rfl) (by kernel_rfl) ?_
            refine AllPre.cons rfl (fun K hK => ?_) ?_
            · go_simp
              refine hK.out _ _ ?_ (fun hH2 => ?_)
              · exact ⟨((HA7.alloc _).ba.cell 3).trans rfl, ((HA7.alloc _).bb.cell 3).trans rfl⟩
              clear hK K hH1
              try simp only [Act.put, List.getElem_toArray, List.getElem_cons_zero, List.getElem_cons_succ, List.setIfInBounds_toArray, List.set_cons_zero, List.set_cons_succ]
              refine PreG.ready (rs := [5]) (by kernel_rfl) (by kernel_rfl) ?_
              refine AllPre.cons rfl (fun K hK => ?_) ?_
              · obtain ⟨D9, d9, X9, ra9, HA9, ga9⟩ := IsR.runA2 (HA7.alloc _) (t := _) HQ.out (own_below ow7 (bl_alloc (Below.refl _ _) _)) (Blk.new' (b := X7.heap.size) (by simp) _ _) hln 23
                refine step_run rfl (.tmp 74) (.tmp 77) 23 rfl (by exact ra9) ?_
                refine hK.out _ _ ?_ (fun hH3 => ?_)
                · exact ⟨(HA9.ba.cell 3).trans rfl, (HA9.bb.cell 3).trans rfl⟩
                clear hK K hH2
                try simp only [Act.put, List.getElem_toArray, List.getElem_cons_zero, List.getElem_cons_succ, List.setIfInBounds_toArray, List.set_cons_zero, List.set_cons_succ]
                refine PreG.take (i := 12) (v := ?vv10) rfl (by kernel_rfl) (by kernel_rfl) (fun _ _ _ h => h) (Or.inl ⟨by rfl, ?hy10⟩) (by assumption) ?rest10
                case hy10 => intro w hSw; (try dsimp only at hSw); first | (go_simp; done) | (go_simp; with_reducible rfl)
                try simp only [Act.put, List.getElem_toArray, List.getElem_cons_zero, List.getElem_cons_succ, List.setIfInBounds_toArray, List.set_cons_zero, List.set_cons_succ]
                refine PreG.ready (rs := [9]) (by kernel_rfl) (by kernel_rfl) ?_
                refine AllPre.cons rfl (fun K hK => ?_) ?_
                · obtain ⟨D11, d11, X11, ra11, HA11, ow11, nb11⟩ := IsR.runN HA9 Tryd.underlying53 info_I HRD.out HI.out.bd HQ.out Bq.1 53
                  refine step_run rfl (.const (.slice none 0 0)) (.tmp 81) 53 rfl (by exact ra11) ?_
                  refine hK.out _ _ ?_ (fun hH4 => ?_)
                  · exact ⟨(HA11.ba.cell 3).trans rfl, (HA11.bb.cell 3).trans rfl⟩
                  clear hK K hH3
                  try simp only [Act.put, List.getElem_toArray, List.getElem_cons_zero, List.getElem_cons_succ, List.setIfInBounds_toArray, List.set_cons_zero, List.set_cons_succ]
                  refine PreG.ready (rs := [10]) (by kernel_rfl) (by kernel_rfl) ?_
                  refine AllPre.cons rfl (fun K hK => ?_) ?_
                  · go_simp
                    refine hK.out _ _ ?_ (fun hH5 => ?_)
                    · exact ⟨((HA11.alloc _).ba.cell 3).trans rfl, ((HA11.alloc _).bb.cell 3).trans rfl⟩
                    clear hK K hH4
                    try simp only [Act.put, List.getElem_toArray, List.getElem_cons_zero, List.getElem_cons_succ, List.setIfInBounds_toArray, List.set_cons_zero, List.set_cons_succ]
                    refine PreG.ready (rs := [11]) (by kernel_rfl) (by kernel_rfl) ?_
                    refine AllPre.cons rfl (fun K hK => ?_) ?_
                    · obtain ⟨D13, d13, X13, ra13, HA13, ga13⟩ := IsR.runB2 (HA11.alloc _) (t := _) HQ.out (own_below ow11 (bl_alloc (Below.refl _ _) _)) (Blk.new' (b := X11.heap.size) (by simp) _ _) hln 23
                      refine step_run rfl (.tmp 80) (.tmp 83) 23 rfl (by exact ra13) ?_
                      refine hK.out _ _ ?_ (fun hH6 => ?_)
                      · exact ⟨(HA13.ba.cell 3).trans rfl, (HA13.bb.cell 3).trans rfl⟩
                      clear hK K hH5
                      try simp only [Act.put, List.getElem_toArray, List.getElem_cons_zero, List.getElem_cons_succ, List.setIfInBounds_toArray, List.set_cons_zero, List.set_cons_succ]
                      refine PreG.done (by kernel_rfl) ?_
                      simp only [List.drop_succ_cons, List.drop_zero]
                      clear hH6
                      have f_z : w.heap.size + 1 + 1 + 1 < X13.heap.size := HA13.ba.lt
                      have f_c0 : X13.cell? ⟨w.heap.size + 1 + 1 + 1, 0, none⟩ = some (.int .i64 I.kind) := (HA13.ba.cell 0).trans rfl
                      have f_f0 := HA13.ba.frozen 0
                      have f_c1 : X13.cell? ⟨w.heap.size + 1 + 1 + 1, 1, none⟩ = some (.int .i64 I.cap) := (HA13.ba.cell 1).trans rfl
                      have f_f1 := HA13.ba.frozen 1
                      have f_c2 : X13.cell? ⟨w.heap.size + 1 + 1 + 1, 2, none⟩ = some (v1) := (HA13.ba.cell 2).trans rfl
                      have f_f2 := HA13.ba.frozen 2
                      have f_c3 : X13.cell? ⟨w.heap.size + 1 + 1 + 1, 3, none⟩ = some (v2) := (HA13.ba.cell 3).trans rfl
                      have f_f3 := HA13.ba.frozen 3
                      have f_c4 : X13.cell? ⟨w.heap.size + 1 + 1 + 1, 4, none⟩ = some (.int .i64 I.size) := (HA13.ba.cell 4).trans rfl
                      have f_f4 := HA13.ba.frozen 4
                      have f_c5 : X13.cell? ⟨w.heap.size + 1 + 1 + 1, 5, none⟩ = some (.slice none 0 0) := (HA13.ba.cell 5).trans rfl
                      have f_f5 := HA13.ba.frozen 5
                      have g_z : w.heap.size + 1 + 1 + 1 + 1 < X13.heap.size := HA13.bb.lt
                      have g_c0 : X13.cell? ⟨w.heap.size + 1 + 1 + 1 + 1, 0, none⟩ = some (.int .i64 I.kind) := (HA13.bb.cell 0).trans rfl
                      have g_f0 := HA13.bb.frozen 0
                      have g_c1 : X13.cell? ⟨w.heap.size + 1 + 1 + 1 + 1, 1, none⟩ = some (.int .i64 I.cap) := (HA13.bb.cell 1).trans rfl
                      have g_f1 := HA13.bb.frozen 1
                      have g_c2 : X13.cell? ⟨w.heap.size + 1 + 1 + 1 + 1, 2, none⟩ = some (u1) := (HA13.bb.cell 2).trans rfl
                      have g_f2 := HA13.bb.frozen 2
                      have g_c3 : X13.cell? ⟨w.heap.size + 1 + 1 + 1 + 1, 3, none⟩ = some (u2) := (HA13.bb.cell 3).trans rfl
                      have g_f3 := HA13.bb.frozen 3
                      have g_c4 : X13.cell? ⟨w.heap.size + 1 + 1 + 1 + 1, 4, none⟩ = some (.int .i64 I.size) := (HA13.bb.cell 4).trans rfl
                      have g_f4 := HA13.bb.frozen 4
                      have g_c5 : X13.cell? ⟨w.heap.size + 1 + 1 + 1 + 1, 5, none⟩ = some (.slice none 0 0) := (HA13.bb.cell 5).trans rfl
                      have g_f5 := HA13.bb.frozen 5
                      go_wp2_with fail
                      go_roundw
                      case rel =>
                        have HF := (HA13.putA 3 (.slice D9 ((cutI I i j 0).cost.length + 1) d9) rfl).putB 3 (.slice D13 ((cutI I i j 0).cost.length + 1) d13) rfl
                        rw [cut_cost HP.out] at HF
                        exact ⟨j + 1, (.slice D9 ((cutI I i j 0).cost.length + 1) d9), (.slice D13 ((cutI I i j 0).cost.length + 1) d13), by go_num, by omega, Lib.hid HF⟩
                      case measure => simp only [intOf]; omega
                    exact AllPre.nil
                  exact AllPre.nil
                exact AllPre.nil
              exact AllPre.nil
            exact AllPre.nil
          exact AllPre.nil
        · obtain rfl : j = m2 := by omega
          clear hlt hj
          have p_z : w.heap.size < wr.heap.size := HR.out.par.lt
          have p_c0 : wr.cell? ⟨w.heap.size, 0, none⟩ = some (.int .i64 I.kind) := (HR.out.par.cell 0).trans rfl
          have p_f0 := HR.out.par.frozen 0
          have p_c1 : wr.cell? ⟨w.heap.size, 1, none⟩ = some (.int .i64 I.cap) := (HR.out.par.cell 1).trans rfl
          have p_f1 := HR.out.par.frozen 1
          have p_c2 : wr.cell? ⟨w.heap.size, 2, none⟩ = some (.slice A1 I.items.length c1) := (HR.out.par.cell 2).trans rfl
          have p_f2 := HR.out.par.frozen 2
          have p_c3 : wr.cell? ⟨w.heap.size, 3, none⟩ = some (.slice A2 I.cost.length c2) := (HR.out.par.cell 3).trans rfl
          have p_f3 := HR.out.par.frozen 3
          have p_c4 : wr.cell? ⟨w.heap.size, 4, none⟩ = some (.int .i64 I.size) := (HR.out.par.cell 4).trans rfl
          have p_f4 := HR.out.par.frozen 4
          have p_c5 : wr.cell? ⟨w.heap.size, 5, none⟩ = some (.slice A3 I.sets.length c3) := (HR.out.par.cell 5).trans rfl
          have p_f5 := HR.out.par.frozen 5
          go_wp2_with fail
          clear p_z p_c0 p_f0 p_c1 p_f1 p_c2 p_f2 p_c3 p_f3 p_c4 p_f4 p_c5 p_f5
          go_loopw [96] (fun vk wr => ∃ (k : Nat) (v3 u3 : Value), vk = .int .i64 k ∧ k ≤ m3 ∧ Hid (IsR wr w I A1 A2 A3 c1 c2 c3 (cutI I i j k) (cutI I i j k) v1 v2 v3 u1 u2 u3 v1 v2 v3 u1 u2 u3)) (fun vk _ => m3 - (intOf vk).toNat)
          case atStart => exact ⟨0, _, _, rfl, Nat.zero_le _, HR⟩
          case round =>
            clear HR
            obtain ⟨k, v3, u3, rfl, hk, HR⟩ := hrel
            by_cases hlt : k < m3
            · obtain ⟨p, hp⟩ : ∃ p, (I.sets.take 40)[k]? = some p := ⟨_, List.getElem?_eq_getElem (by rw [M3.out]; exact hlt)⟩
              have hp1 : I.sets[k]? = some p := by rw [List.getElem?_take] at hp; split at hp; exact hp; cases hp
              obtain ⟨b, o, A', c', rfl, hbB, hc1, hc2, hrc, hcm, hrd0⟩ := HI.out.sets.get hp1
              have hc1 := (HR.out.b.cell (p := ⟨b, o + k * 2, none⟩) (Nat.lt_of_lt_of_le hbB HI.out.bd)).trans hc1
              have hc2 := (HR.out.b.cell (p := ⟨b, o + k * 2 + 1, none⟩) (Nat.lt_of_lt_of_le hbB HI.out.bd)).trans hc2
              have HP := Lib.hid hp
              have HRD := Lib.hid (hrd0.cutq 40)
              obtain ⟨q, hq⟩ : ∃ q, (p.2.take 40).length = q := ⟨_, rfl⟩
              have Eq : (if (40 : Int) < (p.2.length : Int) then (40 : Int) else (p.2.length : Int)) = (q : Int) := by rw [List.length_take] at hq; split <;> omega
              have Bq : q ≤ 70 ∧ q ≤ p.2.length := by rw [List.length_take] at hq; omega
              have HQ := Lib.hid hq
              have i0 : (0 : Int) ≤ (k : Int) := by omega
              have i1 : (k : Int) < (m3 : Int) := by omega
              have hln : (cutI I i j k).sets.length ≤ 70 := by simp only [cutI, List.length_map, List.length_take]; omega
              have nv : ∀ k, wr.heap.size ≤ k → some k ≠ v3.ownBlock := fun k hk e => by obtain ⟨_, _, h, _⟩ := HR.out.rows.a3; have := own_sz h k e.symm; omega
              have nu : ∀ k, wr.heap.size ≤ k → some k ≠ u3.ownBlock := fun k hk e => by obtain ⟨_, _, h, _⟩ := HR.out.rows.b3; have := own_sz h k e.symm; omega
              clear hp hp1 hrd0 hq
              have c_z : w.heap.size + 1 + 1 + 1 < wr.heap.size := HR.out.ba.lt
              have c_c0 : wr.cell? ⟨w.heap.size + 1 + 1 + 1, 0, none⟩ = some (.int .i64 I.kind) := (HR.out.ba.cell 0).trans rfl
              have c_f0 := HR.out.ba.frozen 0
              have c_c1 : wr.cell? ⟨w.heap.size + 1 + 1 + 1, 1, none⟩ = some (.int .i64 I.cap) := (HR.out.ba.cell 1).trans rfl
              have c_f1 := HR.out.ba.frozen 1
              have c_c2 : wr.cell? ⟨w.heap.size + 1 + 1 + 1, 2, none⟩ = some (v1) := (HR.out.ba.cell 2).trans rfl
              have c_f2 := HR.out.ba.frozen 2
              have c_c3 : wr.cell? ⟨w.heap.size + 1 + 1 + 1, 3, none⟩ = some (v2) := (HR.out.ba.cell 3).trans rfl
              have c_f3 := HR.out.ba.frozen 3
              have c_c4 : wr.cell? ⟨w.heap.size + 1 + 1 + 1, 4, none⟩ = some (.int .i64 I.size) := (HR.out.ba.cell 4).trans rfl
              have c_f4 := HR.out.ba.frozen 4
              have c_c5 : wr.cell? ⟨w.heap.size + 1 + 1 + 1, 5, none⟩ = some (v3) := (HR.out.ba.cell 5).trans rfl
              have c_f5 := HR.out.ba.frozen 5
              have d_z : w.heap.size + 1 + 1 + 1 + 1 < wr.heap.size := HR.out.bb.lt
              have d_c0 : wr.cell? ⟨w.heap.size + 1 + 1 + 1 + 1, 0, none⟩ = some (.int .i64 I.kind) := (HR.out.bb.cell 0).trans rfl
              have d_f0 := HR.out.bb.frozen 0
              have d_c1 : wr.cell? ⟨w.heap.size + 1 + 1 + 1 + 1, 1, none⟩ = some (.int .i64 I.cap) := (HR.out.bb.cell 1).trans rfl
              have d_f1 := HR.out.bb.frozen 1
              have d_c2 : wr.cell? ⟨w.heap.size + 1 + 1 + 1 + 1, 2, none⟩ = some (u1) := (HR.out.bb.cell 2).trans rfl
              have d_f2 := HR.out.bb.frozen 2
              have d_c3 : wr.cell? ⟨w.heap.size + 1 + 1 + 1 + 1, 3, none⟩ = some (u2) := (HR.out.bb.cell 3).trans rfl
              have d_f3 := HR.out.bb.frozen 3
              have d_c4 : wr.cell? ⟨w.heap.size + 1 + 1 + 1 + 1, 4, none⟩ = some (.int .i64 I.size) := (HR.out.bb.cell 4).trans rfl
              have d_f4 := HR.out.bb.frozen 4
              have d_c5 : wr.cell? ⟨w.heap.size + 1 + 1 + 1 + 1, 5, none⟩ = some (u3) := (HR.out.bb.cell 5).trans rfl
              have d_f5 := HR.out.bb.frozen 5
              go_wp2_with fail
              have HS := Lib.hid (HR.out.alloc (.cells #[.int .i64 p.1, .slice A' p.2.length c'] 61))
              have B7 := Blk.new wr 61 #[.int .i64 p.1, .slice A' p.2.length c']
              clear HR c_z c_c0 c_f0 c_c1 c_f1 c_c2 c_f2 c_c3 c_f3 c_c4 c_f4 c_c5 c_f5 d_z d_c0 d_f0 d_c1 d_f1 d_c2 d_f2 d_c3 d_f3 d_c4 d_f4 d_c5 d_f5
              generalize wr.alloc (.cells #[.int .i64 p.1, .slice A' p.2.length c'] 61) = wq at HS B7 ⊢
              have g7 := B7.lt
              have c_z : w.heap.size + 1 + 1 + 1 < wq.heap.size := HS.out.ba.lt
              have c_c0 : wq.cell? ⟨w.heap.size + 1 + 1 + 1, 0, none⟩ = some (.int .i64 I.kind) := (HS.out.ba.cell 0).trans rfl
              have c_f0 := HS.out.ba.frozen 0
              have c_c1 : wq.cell? ⟨w.heap.size + 1 + 1 + 1, 1, none⟩ = some (.int .i64 I.cap) := (HS.out.ba.cell 1).trans rfl
              have c_f1 := HS.out.ba.frozen 1
              have c_c2 : wq.cell? ⟨w.heap.size + 1 + 1 + 1, 2, none⟩ = some (v1) := (HS.out.ba.cell 2).trans rfl
              have c_f2 := HS.out.ba.frozen 2
              have c_c3 : wq.cell? ⟨w.heap.size + 1 + 1 + 1, 3, none⟩ = some (v2) := (HS.out.ba.cell 3).trans rfl
              have c_f3 := HS.out.ba.frozen 3
              have c_c4 : wq.cell? ⟨w.heap.size + 1 + 1 + 1, 4, none⟩ = some (.int .i64 I.size) := (HS.out.ba.cell 4).trans rfl
              have c_f4 := HS.out.ba.frozen 4
              have c_c5 : wq.cell? ⟨w.heap.size + 1 + 1 + 1, 5, none⟩ = some (v3) := (HS.out.ba.cell 5).trans rfl
              have c_f5 := HS.out.ba.frozen 5
              have d_z : w.heap.size + 1 + 1 + 1 + 1 < wq.heap.size := HS.out.bb.lt
              have d_c0 : wq.cell? ⟨w.heap.size + 1 + 1 + 1 + 1, 0, none⟩ = some (.int .i64 I.kind) := (HS.out.bb.cell 0).trans rfl
              have d_f0 := HS.out.bb.frozen 0
              have d_c1 : wq.cell? ⟨w.heap.size + 1 + 1 + 1 + 1, 1, none⟩ = some (.int .i64 I.cap) := (HS.out.bb.cell 1).trans rfl
              have d_f1 := HS.out.bb.frozen 1
              have d_c2 : wq.cell? ⟨w.heap.size + 1 + 1 + 1 + 1, 2, none⟩ = some (u1) := (HS.out.bb.cell 2).trans rfl
              have d_f2 := HS.out.bb.frozen 2
              have d_c3 : wq.cell? ⟨w.heap.size + 1 + 1 + 1 + 1, 3, none⟩ = some (u2) := (HS.out.bb.cell 3).trans rfl
              have d_f3 := HS.out.bb.frozen 3
              have d_c4 : wq.cell? ⟨w.heap.size + 1 + 1 + 1 + 1, 4, none⟩ = some (.int .i64 I.size) := (HS.out.bb.cell 4).trans rfl
              have d_f4 := HS.out.bb.frozen 4
              have d_c5 : wq.cell? ⟨w.heap.size + 1 + 1 + 1 + 1, 5, none⟩ = some (u3) := (HS.out.bb.cell 5).trans rfl
              have d_f5 := HS.out.bb.frozen 5
              have e_z : wr.heap.size < wq.heap.size := B7.lt
              have e_c0 : wq.cell? ⟨wr.heap.size, 0, none⟩ = some (.int .i64 p.1) := (B7.cell 0).trans rfl
              have e_f0 := B7.frozen 0
              have e_c1 : wq.cell? ⟨wr.heap.size, 1, none⟩ = some (.slice A' p.2.length c') := (B7.cell 1).trans rfl
              have e_f1 := B7.frozen 1
              go_wp2_with fail
              clear c_z c_c0 c_f0 c_c1 c_f1 c_c2 c_f2 c_c3 c_f3 c_c4 c_f4 c_c5 c_f5 d_z d_c0 d_f0 d_c1 d_f1 d_c2 d_f2 d_c3 d_f3 d_c4 d_f4 d_c5 d_f5 e_z e_c0 e_f0 e_c1 e_f1
              refine wp_region_pre (S := fun w' => w'.cell? ⟨w.heap.size + 1 + 1 + 1, 5, none⟩ = some v3 ∧ w'.cell? ⟨w.heap.size + 1 + 1 + 1 + 1, 5, none⟩ = some u3 ∧ w'.cell? ⟨wr.heap.size, 0, none⟩ = some (.int .i64 p.1)) 19 (by kernel_rfl) (by kernel_rfl) ?_ (fun hH0 => ?_)
              · exact ⟨((HS.out.drew).ba.cell 5).trans rfl, ((HS.out.drew).bb.cell 5).trans rfl, ((B7.drew).cell 0).trans rfl⟩
              refine PreG.take (i := 0) (v := ?vv14) rfl (by kernel_rfl) (by kernel_rfl) (fun _ _ _ h => h) (Or.inl ⟨by rfl, ?hy14⟩) (by assumption) ?rest14
              case hy14 => intro w hSw; (try dsimp only at hSw); first | (go_simp; done) | (go_simp; with_reducible rfl)
              try simp only [Act.put, List.getElem_toArray, List.getElem_cons_zero, List.getElem_cons_succ, List.setIfInBounds_toArray, List.set_cons_zero, List.set_cons_succ]
              refine PreG.take (i := 1) (v := ?vv15) rfl (by kernel_rfl) (by kernel_rfl) (fun _ _ _ h => h) (Or.inl ⟨by rfl, ?hy15⟩) (by assumption) ?rest15
              case hy15 => intro w hSw; (try dsimp only at hSw); first | (go_simp; done) | (go_simp; with_reducible rfl)
              try simp only [Act.put, List.getElem_toArray, List.getElem_cons_zero, List.getElem_cons_succ, List.setIfInBounds_toArray, List.set_cons_zero, List.set_cons_succ]
              refine PreG.take (i := 2) (v := ?vv16) rfl (by kernel_rfl) (by kernel_rfl) (fun _ _ _ h => h) (Or.inl ⟨by rfl, ?hy16⟩) (by assumption) ?rest16
              case hy16 => intro w hSw; (try dsimp only at hSw); first | (go_simp; done) | (go_simp; with_reducible rfl)
              try simp only [Act.put, List.getElem_toArray, List.getElem_cons_zero, List.getElem_cons_succ, List.setIfInBounds_toArray, List.set_cons_zero, List.set_cons_succ]
              refine PreG.take (i := 3) (v := ?vv17) rfl (by kernel_rfl) (by kernel_rfl) (fun _ _ _ h => h) (Or.inl ⟨by rfl, ?hy17⟩) (by assumption) ?rest17
              case hy17 => intro w hSw; (try dsimp only at hSw); first | (go_simp; done) | (go_simp; with_reducible rfl)
              try simp only [Act.put, List.getElem_toArray, List.getElem_cons_zero, List.getElem_cons_succ, List.setIfInBounds_toArray, List.set_cons_zero, List.set_cons_succ]
              refine PreG.take (i := 4) (v := ?vv18) rfl (by kernel_rfl) (by kernel_rfl) (fun _ _ _ h => h) (Or.inl ⟨by rfl, ?hy18⟩) (by assumption) ?rest18
              case hy18 => intro w hSw; (try dsimp only at hSw); first | (go_simp; done) | (go_simp; with_reducible rfl)
              try simp only [Act.put, List.getElem_toArray, List.getElem_cons_zero, List.getElem_cons_succ, List.setIfInBounds_toArray, List.set_cons_zero, List.set_cons_succ]
              refine PreG.take (i := 9) (v := ?vv19) rfl (by kernel_rfl) (by kernel_rfl) (fun _ _ _ h => h) (Or.inl ⟨by rfl, ?hy19⟩) (by assumption) ?rest19
              case hy19 => intro w hSw; (try dsimp only at hSw); first | (go_simp; done) | (go_simp; with_reducible rfl)
              try simp only [Act.put, List.getElem_toArray, List.getElem_cons_zero, List.getElem_cons_succ, List.setIfInBounds_toArray, List.set_cons_zero, List.set_cons_succ]
              refine PreG.take (i := 10) (v := ?vv20) rfl (by kernel_rfl) (by kernel_rfl) (fun _ _ _ h => h) (Or.inl ⟨by rfl, ?hy20⟩) (by assumption) ?rest20
              case hy20 => intro w hSw; (try dsimp only at hSw); first | (go_simp; done) | (go_simp; with_reducible rfl)
              try simp only [Act.put, List.getElem_toArray, List.getElem_cons_zero, List.getElem_cons_succ, List.setIfInBounds_toArray, List.set_cons_zero, List.set_cons_succ]
              refine PreG.take (i := 11) (v := ?vv21) rfl (by kernel_rfl) (by kernel_rfl) (fun _ _ _ h => h) (Or.inl ⟨by rfl, ?hy21⟩) (by assumption) ?rest21
              case hy21 => intro w hSw; (try dsimp only at hSw); first | (go_simp; done) | (go_simp; with_reducible rfl)
              try simp only [Act.put, List.getElem_toArray, List.getElem_cons_zero, List.getElem_cons_succ, List.setIfInBounds_toArray, List.set_cons_zero, List.set_cons_succ]
              refine PreG.take (i := 12) (v := ?vv22) rfl (by kernel_rfl) (by kernel_rfl) (fun _ _ _ h => h) (Or.inl ⟨by rfl, ?hy22⟩) (by assumption) ?rest22
              case hy22 => intro w hSw; (try dsimp only at hSw); first | (go_simp; done) | (go_simp; with_reducible rfl)
              try simp only [Act.put, List.getElem_toArray, List.getElem_cons_zero, List.getElem_cons_succ, List.setIfInBounds_toArray, List.set_cons_zero, List.set_cons_succ]
              refine PreG.take (i := 13) (v := ?vv23) rfl (by kernel_rfl) (by kernel_rfl) (fun _ _ _ h => h) (Or.inl ⟨by rfl, ?hy23⟩) (by assumption) ?rest23
              case hy23 => intro w hSw; (try dsimp only at hSw); first | (go_simp; done) | (go_simp; with_reducible rfl)
              try simp only [Act.put, List.getElem_toArray, List.getElem_cons_zero, List.getElem_cons_succ, List.setIfInBounds_toArray, List.set_cons_zero, List.set_cons_succ]
              refine PreG.ready (rs := [5]) (by kernel_rfl) (by kernel_rfl) ?_
              refine AllPre.cons rfl (fun K hK => ?_) ?_
              · obtain ⟨D24, d24, X24, ra24, HA24, ow24, nb24⟩ := IsR.runN (HS.out.drew) Tryd.underlying54 info_N HRD.out HI.out.bd HQ.out Bq.1 54
                refine step_run rfl (.const (.slice none 0 0)) (.tmp 111) 54 rfl (by exact ra24) ?_
                have Bt_24 := ((B7.drew).below nb24)
                refine hK.out _ _ ?_ (fun hH1 => ?_)
                · exact ⟨(HA24.ba.cell 5).trans rfl, (HA24.bb.cell 5).trans rfl, (Bt_24.cell 0).trans rfl⟩
                clear hK K hH0
                try simp only [Act.put, List.getElem_toArray, List.getElem_cons_zero, List.getElem_cons_succ, List.setIfInBounds_toArray, List.set_cons_zero, List.set_cons_succ]
                refine PreG.take (i := 6) (v := ?vv25) rfl (by kernel_rfl) (by kernel_rfl) (fun _ _ _ h => h) (Or.inl ⟨by rfl, ?hy25⟩) (by assumption) ?rest25
                case hy25 => intro w hSw; (try dsimp only at hSw); first | (go_simp; done) | (go_simp; with_reducible rfl)
                try simp only [Act.put, List.getElem_toArray, List.getElem_cons_zero, List.getElem_cons_succ, List.setIfInBounds_toArray, List.set_cons_zero, List.set_cons_succ]
                refine PreG.ready (rs := [7]) (by kernel_rfl) (by kernel_rfl) ?_
                refine AllPre.cons rfl (fun K hK => ?_) ?_
                · go_simp
                  refine hK.out _ _ ?_ (fun hH2 => ?_)
                  · exact ⟨((HA24.alloc _).ba.cell 5).trans rfl, ((HA24.alloc _).bb.cell 5).trans rfl, ((Bt_24.alloc _).cell 0).trans rfl⟩
                  clear hK K hH1
                  try simp only [Act.put, List.getElem_toArray, List.getElem_cons_zero, List.getElem_cons_succ, List.setIfInBounds_toArray, List.set_cons_zero, List.set_cons_succ]
                  refine PreG.ready (rs := [8]) (by kernel_rfl) (by kernel_rfl) ?_
                  refine AllPre.cons rfl (fun K hK => ?_) ?_
                  · obtain ⟨D27, d27, X27, ra27, HA27, ga27⟩ := IsR.runA3 (HA24.alloc _) (t := _) HQ.out (own_below ow24 (bl_alloc (Below.refl _ _) _)) (Blk.new' (b := X24.heap.size) (by simp) _ _) hln 31
                    refine step_run rfl (.tmp 108) (.tmp 114) 31 rfl (by exact ra27) ?_
                    have Bt_27 := ((Bt_24.alloc _).grown ga27 (nv _ (Nat.le_refl _)))
                    refine hK.out _ _ ?_ (fun hH3 => ?_)
                    · exact ⟨(HA27.ba.cell 5).trans rfl, (HA27.bb.cell 5).trans rfl, (Bt_27.cell 0).trans rfl⟩
                    clear hK K hH2
                    try simp only [Act.put, List.getElem_toArray, List.getElem_cons_zero, List.getElem_cons_succ, List.setIfInBounds_toArray, List.set_cons_zero, List.set_cons_succ]
                    refine PreG.take (i := 18) (v := ?vv28) rfl (by kernel_rfl) (by kernel_rfl) (fun _ _ _ h => h) (Or.inl ⟨by rfl, ?hy28⟩) (by assumption) ?rest28
                    case hy28 => intro w hSw; (try dsimp only at hSw); first | (go_simp; done) | (go_simp; with_reducible rfl)
                    try simp only [Act.put, List.getElem_toArray, List.getElem_cons_zero, List.getElem_cons_succ, List.setIfInBounds_toArray, List.set_cons_zero, List.set_cons_succ]
                    refine PreG.ready (rs := [14]) (by kernel_rfl) (by kernel_rfl) ?_
                    refine AllPre.cons rfl (fun K hK => ?_) ?_
                    · obtain ⟨D29, d29, X29, ra29, HA29, ow29, nb29⟩ := IsR.runN HA27 Tryd.underlying54 info_N HRD.out HI.out.bd HQ.out Bq.1 54
                      refine step_run rfl (.const (.slice none 0 0)) (.tmp 120) 54 rfl (by exact ra29) ?_
                      have Bt_29 := (Bt_27.below nb29)
                      refine hK.out _ _ ?_ (fun hH4 => ?_)
                      · exact ⟨(HA29.ba.cell 5).trans rfl, (HA29.bb.cell 5).trans rfl, (Bt_29.cell 0).trans rfl⟩
                      clear hK K hH3
                      try simp only [Act.put, List.getElem_toArray, List.getElem_cons_zero, List.getElem_cons_succ, List.setIfInBounds_toArray, List.set_cons_zero, List.set_cons_succ]
                      refine PreG.take (i := 15) (v := ?vv30) rfl (by kernel_rfl) (by kernel_rfl) (fun _ _ _ h => h) (Or.inl ⟨by rfl, ?hy30⟩) (by assumption) ?rest30
                      case hy30 => intro w hSw; (try dsimp only at hSw); first | (go_simp; done) | (go_simp; with_reducible rfl)
                      try simp only [Act.put, List.getElem_toArray, List.getElem_cons_zero, List.getElem_cons_succ, List.setIfInBounds_toArray, List.set_cons_zero, List.set_cons_succ]
                      refine PreG.ready (rs := [16]) (by kernel_rfl) (by kernel_rfl) ?_
                      refine AllPre.cons rfl (fun K hK => ?_) ?_
                      · go_simp
                        refine hK.out _ _ ?_ (fun hH5 => ?_)
                        · exact ⟨((HA29.alloc _).ba.cell 5).trans rfl, ((HA29.alloc _).bb.cell 5).trans rfl, ((Bt_29.alloc _).cell 0).trans rfl⟩
                        clear hK K hH4
                        try simp only [Act.put, List.getElem_toArray, List.getElem_cons_zero, List.getElem_cons_succ, List.setIfInBounds_toArray, List.set_cons_zero, List.set_cons_succ]
                        refine PreG.ready (rs := [17]) (by kernel_rfl) (by kernel_rfl) ?_
                        refine AllPre.cons rfl (fun K hK => ?_) ?_
                        · obtain ⟨D32, d32, X32, ra32, HA32, ga32⟩ := IsR.runB3 (HA29.alloc _) (t := _) HQ.out (own_below ow29 (bl_alloc (Below.refl _ _) _)) (Blk.new' (b := X29.heap.size) (by simp) _ _) hln 34
                          refine step_run rfl (.tmp 117) (.tmp 123) 34 rfl (by exact ra32) ?_
                          have Bt_32 := ((Bt_29.alloc _).grown ga32 (nu _ (Nat.le_refl _)))
                          refine hK.out _ _ ?_ (fun hH6 => ?_)
                          · exact ⟨(HA32.ba.cell 5).trans rfl, (HA32.bb.cell 5).trans rfl, (Bt_32.cell 0).trans rfl⟩
                          clear hK K hH5
                          try simp only [Act.put, List.getElem_toArray, List.getElem_cons_zero, List.getElem_cons_succ, List.setIfInBounds_toArray, List.set_cons_zero, List.set_cons_succ]
                          refine PreG.done (by kernel_rfl) ?_
                          simp only [List.drop_succ_cons, List.drop_zero]
                          clear hH6
                          have f_z : w.heap.size + 1 + 1 + 1 < X32.heap.size := HA32.ba.lt
                          have f_c0 : X32.cell? ⟨w.heap.size + 1 + 1 + 1, 0, none⟩ = some (.int .i64 I.kind) := (HA32.ba.cell 0).trans rfl
                          have f_f0 := HA32.ba.frozen 0
                          have f_c1 : X32.cell? ⟨w.heap.size + 1 + 1 + 1, 1, none⟩ = some (.int .i64 I.cap) := (HA32.ba.cell 1).trans rfl
                          have f_f1 := HA32.ba.frozen 1
                          have f_c2 : X32.cell? ⟨w.heap.size + 1 + 1 + 1, 2, none⟩ = some (v1) := (HA32.ba.cell 2).trans rfl
                          have f_f2 := HA32.ba.frozen 2
                          have f_c3 : X32.cell? ⟨w.heap.size + 1 + 1 + 1, 3, none⟩ = some (v2) := (HA32.ba.cell 3).trans rfl
                          have f_f3 := HA32.ba.frozen 3
                          have f_c4 : X32.cell? ⟨w.heap.size + 1 + 1 + 1, 4, none⟩ = some (.int .i64 I.size) := (HA32.ba.cell 4).trans rfl
                          have f_f4 := HA32.ba.frozen 4
                          have f_c5 : X32.cell? ⟨w.heap.size + 1 + 1 + 1, 5, none⟩ = some (v3) := (HA32.ba.cell 5).trans rfl
                          have f_f5 := HA32.ba.frozen 5
                          have g_z : w.heap.size + 1 + 1 + 1 + 1 < X32.heap.size := HA32.bb.lt
                          have g_c0 : X32.cell? ⟨w.heap.size + 1 + 1 + 1 + 1, 0, none⟩ = some (.int .i64 I.kind) := (HA32.bb.cell 0).trans rfl
                          have g_f0 := HA32.bb.frozen 0
                          have g_c1 : X32.cell? ⟨w.heap.size + 1 + 1 + 1 + 1, 1, none⟩ = some (.int .i64 I.cap) := (HA32.bb.cell 1).trans rfl
                          have g_f1 := HA32.bb.frozen 1
                          have g_c2 : X32.cell? ⟨w.heap.size + 1 + 1 + 1 + 1, 2, none⟩ = some (u1) := (HA32.bb.cell 2).trans rfl
                          have g_f2 := HA32.bb.frozen 2
                          have g_c3 : X32.cell? ⟨w.heap.size + 1 + 1 + 1 + 1, 3, none⟩ = some (u2) := (HA32.bb.cell 3).trans rfl
                          have g_f3 := HA32.bb.frozen 3
                          have g_c4 : X32.cell? ⟨w.heap.size + 1 + 1 + 1 + 1, 4, none⟩ = some (.int .i64 I.size) := (HA32.bb.cell 4).trans rfl
                          have g_f4 := HA32.bb.frozen 4
                          have g_c5 : X32.cell? ⟨w.heap.size + 1 + 1 + 1 + 1, 5, none⟩ = some (u3) := (HA32.bb.cell 5).trans rfl
                          have g_f5 := HA32.bb.frozen 5
                          go_wp2_with fail
                          go_roundw
                          case rel =>
                            have HF := (HA32.putA 5 (.slice D27 ((cutI I i j k).sets.length + 1) d27) rfl).putB 5 (.slice D32 ((cutI I i j k).sets.length + 1) d32) rfl
                            rw [cut_sets HP.out] at HF
                            exact ⟨k + 1, (.slice D27 ((cutI I i j k).sets.length + 1) d27), (.slice D32 ((cutI I i j k).sets.length + 1) d32), by go_num, by omega, Lib.hid HF⟩
                          case measure => simp only [intOf]; omega
                        exact AllPre.nil
                      exact AllPre.nil
                    exact AllPre.nil
                  exact AllPre.nil
                exact AllPre.nil
              exact AllPre.nil
            · obtain rfl : k = m3 := by omega
              clear hlt hk
              obtain ⟨D1, d1, rfl, -⟩ := own_slice HR.out.rows.a1
              obtain ⟨E1', e1', rfl, -⟩ := own_slice HR.out.rows.b1
              obtain ⟨_, -, hx2, -⟩ := HR.out.rows.a2
              obtain ⟨D2, d2, rfl, -⟩ := own_slice hx2
              obtain ⟨_, -, hx3, -⟩ := HR.out.rows.a3
              obtain ⟨D3, d3, rfl, -⟩ := own_slice hx3
              obtain ⟨_, -, hy2, -⟩ := HR.out.rows.b2
              obtain ⟨E2', e2', rfl, -⟩ := own_slice hy2
              obtain ⟨_, -, hy3, -⟩ := HR.out.rows.b3
              obtain ⟨E3', e3', rfl, -⟩ := own_slice hy3
              clear hx2 hx3 hy2 hy3
              have a_z : w.heap.size + 1 + 1 + 1 < wr.heap.size := HR.out.ba.lt
              have a_c0 : wr.cell? ⟨w.heap.size + 1 + 1 + 1, 0, none⟩ = some (.int .i64 I.kind) := (HR.out.ba.cell 0).trans rfl
              have a_f0 := HR.out.ba.frozen 0
              have a_c1 : wr.cell? ⟨w.heap.size + 1 + 1 + 1, 1, none⟩ = some (.int .i64 I.cap) := (HR.out.ba.cell 1).trans rfl
              have a_f1 := HR.out.ba.frozen 1
              have a_c2 : wr.cell? ⟨w.heap.size + 1 + 1 + 1, 2, none⟩ = some (.slice D1 (cutI I i j k).items.length d1) := (HR.out.ba.cell 2).trans rfl
              have a_f2 := HR.out.ba.frozen 2
              have a_c3 : wr.cell? ⟨w.heap.size + 1 + 1 + 1, 3, none⟩ = some (.slice D2 (cutI I i j k).cost.length d2) := (HR.out.ba.cell 3).trans rfl
              have a_f3 := HR.out.ba.frozen 3
              have a_c4 : wr.cell? ⟨w.heap.size + 1 + 1 + 1, 4, none⟩ = some (.int .i64 I.size) := (HR.out.ba.cell 4).trans rfl
              have a_f4 := HR.out.ba.frozen 4
              have a_c5 : wr.cell? ⟨w.heap.size + 1 + 1 + 1, 5, none⟩ = some (.slice D3 (cutI I i j k).sets.length d3) := (HR.out.ba.cell 5).trans rfl
              have a_f5 := HR.out.ba.frozen 5
              have b_z : w.heap.size + 1 + 1 + 1 + 1 < wr.heap.size := HR.out.bb.lt
              have b_c0 : wr.cell? ⟨w.heap.size + 1 + 1 + 1 + 1, 0, none⟩ = some (.int .i64 I.kind) := (HR.out.bb.cell 0).trans rfl
              have b_f0 := HR.out.bb.frozen 0
              have b_c1 : wr.cell? ⟨w.heap.size + 1 + 1 + 1 + 1, 1, none⟩ = some (.int .i64 I.cap) := (HR.out.bb.cell 1).trans rfl
              have b_f1 := HR.out.bb.frozen 1
              have b_c2 : wr.cell? ⟨w.heap.size + 1 + 1 + 1 + 1, 2, none⟩ = some (.slice E1' (cutI I i j k).items.length e1') := (HR.out.bb.cell 2).trans rfl
              have b_f2 := HR.out.bb.frozen 2
              have b_c3 : wr.cell? ⟨w.heap.size + 1 + 1 + 1 + 1, 3, none⟩ = some (.slice E2' (cutI I i j k).cost.length e2') := (HR.out.bb.cell 3).trans rfl
              have b_f3 := HR.out.bb.frozen 3
              have b_c4 : wr.cell? ⟨w.heap.size + 1 + 1 + 1 + 1, 4, none⟩ = some (.int .i64 I.size) := (HR.out.bb.cell 4).trans rfl
              have b_f4 := HR.out.bb.frozen 4
              have b_c5 : wr.cell? ⟨w.heap.size + 1 + 1 + 1 + 1, 5, none⟩ = some (.slice E3' (cutI I i j k).sets.length e3') := (HR.out.bb.cell 5).trans rfl
              have b_f5 := HR.out.bb.frozen 5
              have c_z : w.heap.size + 1 < wr.heap.size := HR.out.r2.lt
              have c_c0 : wr.cell? ⟨w.heap.size + 1, 0, none⟩ = some (.int .i64 0) := (HR.out.r2.cell 0).trans rfl
              have c_f0 := HR.out.r2.frozen 0
              have c_c1 : wr.cell? ⟨w.heap.size + 1, 1, none⟩ = some (.int .i64 0) := (HR.out.r2.cell 1).trans rfl
              have c_f1 := HR.out.r2.frozen 1
              have c_c2 : wr.cell? ⟨w.heap.size + 1, 2, none⟩ = some (.slice none 0 0) := (HR.out.r2.cell 2).trans rfl
              have c_f2 := HR.out.r2.frozen 2
              have c_c3 : wr.cell? ⟨w.heap.size + 1, 3, none⟩ = some (.slice none 0 0) := (HR.out.r2.cell 3).trans rfl
              have c_f3 := HR.out.r2.frozen 3
              have c_c4 : wr.cell? ⟨w.heap.size + 1, 4, none⟩ = some (.int .i64 0) := (HR.out.r2.cell 4).trans rfl
              have c_f4 := HR.out.r2.frozen 4
              have c_c5 : wr.cell? ⟨w.heap.size + 1, 5, none⟩ = some (.slice none 0 0) := (HR.out.r2.cell 5).trans rfl
              have c_f5 := HR.out.r2.frozen 5
              have d_z : w.heap.size + 1 + 1 < wr.heap.size := HR.out.r3.lt
              have d_c0 : wr.cell? ⟨w.heap.size + 1 + 1, 0, none⟩ = some (.int .i64 0) := (HR.out.r3.cell 0).trans rfl
              have d_f0 := HR.out.r3.frozen 0
              have d_c1 : wr.cell? ⟨w.heap.size + 1 + 1, 1, none⟩ = some (.int .i64 0) := (HR.out.r3.cell 1).trans rfl
              have d_f1 := HR.out.r3.frozen 1
              have d_c2 : wr.cell? ⟨w.heap.size + 1 + 1, 2, none⟩ = some (.slice none 0 0) := (HR.out.r3.cell 2).trans rfl
              have d_f2 := HR.out.r3.frozen 2
              have d_c3 : wr.cell? ⟨w.heap.size + 1 + 1, 3, none⟩ = some (.slice none 0 0) := (HR.out.r3.cell 3).trans rfl
              have d_f3 := HR.out.r3.frozen 3
              have d_c4 : wr.cell? ⟨w.heap.size + 1 + 1, 4, none⟩ = some (.int .i64 0) := (HR.out.r3.cell 4).trans rfl
              have d_f4 := HR.out.r3.frozen 4
              have d_c5 : wr.cell? ⟨w.heap.size + 1 + 1, 5, none⟩ = some (.slice none 0 0) := (HR.out.r3.cell 5).trans rfl
              have d_f5 := HR.out.r3.frozen 5
              go_wp2_with fail
              go_region_held3 (fun w' => w'.cell? ⟨w.heap.size + 1 + 1 + 1, 0, none⟩ = some (.int .i64 I.kind) ∧ w'.cell? ⟨w.heap.size + 1 + 1 + 1, 1, none⟩ = some (.int .i64 I.cap) ∧ w'.cell? ⟨w.heap.size + 1 + 1 + 1, 2, none⟩ = some (.slice D1 (cutI I i j k).items.length d1) ∧ w'.cell? ⟨w.heap.size + 1 + 1 + 1, 3, none⟩ = some (.slice D2 (cutI I i j k).cost.length d2) ∧ w'.cell? ⟨w.heap.size + 1 + 1 + 1, 4, none⟩ = some (.int .i64 I.size) ∧ w'.cell? ⟨w.heap.size + 1 + 1 + 1, 5, none⟩ = some (.slice D3 (cutI I i j k).sets.length d3) ∧ w'.cell? ⟨w.heap.size + 1 + 1 + 1 + 1, 0, none⟩ = some (.int .i64 I.kind) ∧ w'.cell? ⟨w.heap.size + 1 + 1 + 1 + 1, 1, none⟩ = some (.int .i64 I.cap) ∧ w'.cell? ⟨w.heap.size + 1 + 1 + 1 + 1, 2, none⟩ = some (.slice E1' (cutI I i j k).items.length e1') ∧ w'.cell? ⟨w.heap.size + 1 + 1 + 1 + 1, 3, none⟩ = some (.slice E2' (cutI I i j k).cost.length e2') ∧ w'.cell? ⟨w.heap.size + 1 + 1 + 1 + 1, 4, none⟩ = some (.int .i64 I.size) ∧ w'.cell? ⟨w.heap.size + 1 + 1 + 1 + 1, 5, none⟩ = some (.slice E3' (cutI I i j k).sets.length e3')) (first | go_keep | (go_split_ands; refine ⟨?_, ?_, ?_, ?_, ?_, ?_, ?_, ?_, ?_, ?_, ?_, ?_⟩ <;> (repeat rw [World.cell?_setCell_other _ _ _ _ (by simp)]) <;> assumption)) (fail)
              go_wp2
              have e : cutI I i j k = cutF I := by simp only [cutI, cutF]; rw [List.take_of_length_le (l := I.items.take 40) (by rw [M1.out]; exact Nat.le_refl _), List.take_of_length_le (l := I.cost.take 70) (by rw [M2.out]; exact Nat.le_refl _), List.take_of_length_le (l := I.sets.take 40) (by rw [M3.out]; exact Nat.le_refl _)]
              have ne23 : ¬ w.heap.size + 1 = w.heap.size + 1 + 1 := by omega
              have ne32 : ¬ w.heap.size + 1 + 1 = w.heap.size + 1 := by omega
              have lt2 : w.heap.size + 1 < w.heap.size + 1 + 1 + 1 + 1 + 1 := by omega
              have lt3 : w.heap.size + 1 + 1 < w.heap.size + 1 + 1 + 1 + 1 + 1 := by omega
              have ge2 : w.heap.size ≤ w.heap.size + 1 := by omega
              have ge3 : w.heap.size ≤ w.heap.size + 1 + 1 := by omega
              have Q2 : Blk (((((((((((((wr.setCell ⟨w.heap.size + 1, 0, none⟩ (.int .i64 I.kind)).setCell ⟨w.heap.size + 1, 1, none⟩ (.int .i64 I.cap)).setCell ⟨w.heap.size + 1, 2, none⟩ (.slice D1 (cutI I i j k).items.length d1)).setCell ⟨w.heap.size + 1, 3, none⟩ (.slice D2 (cutI I i j k).cost.length d2)).setCell ⟨w.heap.size + 1, 4, none⟩ (.int .i64 I.size)).setCell ⟨w.heap.size + 1, 5, none⟩ (.slice D3 (cutI I i j k).sets.length d3)).setCell ⟨w.heap.size + 1 + 1, 0, none⟩ (.int .i64 I.kind)).setCell ⟨w.heap.size + 1 + 1, 1, none⟩ (.int .i64 I.cap)).setCell ⟨w.heap.size + 1 + 1, 2, none⟩ (.slice E1' (cutI I i j k).items.length e1')).setCell ⟨w.heap.size + 1 + 1, 3, none⟩ (.slice E2' (cutI I i j k).cost.length e2')).setCell ⟨w.heap.size + 1 + 1, 4, none⟩ (.int .i64 I.size)).setCell ⟨w.heap.size + 1 + 1, 5, none⟩ (.slice E3' (cutI I i j k).sets.length e3')).drew) (w.heap.size + 1) 33 #[.int .i64 I.kind, .int .i64 I.cap, .slice D1 (cutI I i j k).items.length d1, .slice D2 (cutI I i j k).cost.length d2, .int .i64 I.size, .slice D3 (cutI I i j k).sets.length d3] := ((((((((((((HR.out.r2.put 0 (.int .i64 I.kind) rfl).put 1 (.int .i64 I.cap) rfl).put 2 (.slice D1 (cutI I i j k).items.length d1) rfl).put 3 (.slice D2 (cutI I i j k).cost.length d2) rfl).put 4 (.int .i64 I.size) rfl).put 5 (.slice D3 (cutI I i j k).sets.length d3) rfl).far (p := ⟨w.heap.size + 1 + 1, 0, none⟩) (by exact ne23) (.int .i64 I.kind)).far (p := ⟨w.heap.size + 1 + 1, 1, none⟩) (by exact ne23) (.int .i64 I.cap)).far (p := ⟨w.heap.size + 1 + 1, 2, none⟩) (by exact ne23) (.slice E1' (cutI I i j k).items.length e1')).far (p := ⟨w.heap.size + 1 + 1, 3, none⟩) (by exact ne23) (.slice E2' (cutI I i j k).cost.length e2')).far (p := ⟨w.heap.size + 1 + 1, 4, none⟩) (by exact ne23) (.int .i64 I.size)).far (p := ⟨w.heap.size + 1 + 1, 5, none⟩) (by exact ne23) (.slice E3' (cutI I i j k).sets.length e3')).drew
              have Q3 : Blk (((((((((((((wr.setCell ⟨w.heap.size + 1, 0, none⟩ (.int .i64 I.kind)).setCell ⟨w.heap.size + 1, 1, none⟩ (.int .i64 I.cap)).setCell ⟨w.heap.size + 1, 2, none⟩ (.slice D1 (cutI I i j k).items.length d1)).setCell ⟨w.heap.size + 1, 3, none⟩ (.slice D2 (cutI I i j k).cost.length d2)).setCell ⟨w.heap.size + 1, 4, none⟩ (.int .i64 I.size)).setCell ⟨w.heap.size + 1, 5, none⟩ (.slice D3 (cutI I i j k).sets.length d3)).setCell ⟨w.heap.size + 1 + 1, 0, none⟩ (.int .i64 I.kind)).setCell ⟨w.heap.size + 1 + 1, 1, none⟩ (.int .i64 I.cap)).setCell ⟨w.heap.size + 1 + 1, 2, none⟩ (.slice E1' (cutI I i j k).items.length e1')).setCell ⟨w.heap.size + 1 + 1, 3, none⟩ (.slice E2' (cutI I i j k).cost.length e2')).setCell ⟨w.heap.size + 1 + 1, 4, none⟩ (.int .i64 I.size)).setCell ⟨w.heap.size + 1 + 1, 5, none⟩ (.slice E3' (cutI I i j k).sets.length e3')).drew) (w.heap.size + 1 + 1) 36 #[.int .i64 I.kind, .int .i64 I.cap, .slice E1' (cutI I i j k).items.length e1', .slice E2' (cutI I i j k).cost.length e2', .int .i64 I.size, .slice E3' (cutI I i j k).sets.length e3'] := ((((((((((((HR.out.r3.far (p := ⟨w.heap.size + 1, 0, none⟩) (by exact ne32) (.int .i64 I.kind)).far (p := ⟨w.heap.size + 1, 1, none⟩) (by exact ne32) (.int .i64 I.cap)).far (p := ⟨w.heap.size + 1, 2, none⟩) (by exact ne32) (.slice D1 (cutI I i j k).items.length d1)).far (p := ⟨w.heap.size + 1, 3, none⟩) (by exact ne32) (.slice D2 (cutI I i j k).cost.length d2)).far (p := ⟨w.heap.size + 1, 4, none⟩) (by exact ne32) (.int .i64 I.size)).far (p := ⟨w.heap.size + 1, 5, none⟩) (by exact ne32) (.slice D3 (cutI I i j k).sets.length d3)).put 0 (.int .i64 I.kind) rfl).put 1 (.int .i64 I.cap) rfl).put 2 (.slice E1' (cutI I i j k).items.length e1') rfl).put 3 (.slice E2' (cutI I i j k).cost.length e2') rfl).put 4 (.int .i64 I.size) rfl).put 5 (.slice E3' (cutI I i j k).sets.length e3') rfl).drew
              have QI := Lib.hid (((((((((((((HR.out.rows.set (p := ⟨w.heap.size + 1, 0, none⟩) (by exact lt2) (.int .i64 I.kind)).set (p := ⟨w.heap.size + 1, 1, none⟩) (by exact lt2) (.int .i64 I.cap)).set (p := ⟨w.heap.size + 1, 2, none⟩) (by exact lt2) (.slice D1 (cutI I i j k).items.length d1)).set (p := ⟨w.heap.size + 1, 3, none⟩) (by exact lt2) (.slice D2 (cutI I i j k).cost.length d2)).set (p := ⟨w.heap.size + 1, 4, none⟩) (by exact lt2) (.int .i64 I.size)).set (p := ⟨w.heap.size + 1, 5, none⟩) (by exact lt2) (.slice D3 (cutI I i j k).sets.length d3)).set (p := ⟨w.heap.size + 1 + 1, 0, none⟩) (by exact lt3) (.int .i64 I.kind)).set (p := ⟨w.heap.size + 1 + 1, 1, none⟩) (by exact lt3) (.int .i64 I.cap)).set (p := ⟨w.heap.size + 1 + 1, 2, none⟩) (by exact lt3) (.slice E1' (cutI I i j k).items.length e1')).set (p := ⟨w.heap.size + 1 + 1, 3, none⟩) (by exact lt3) (.slice E2' (cutI I i j k).cost.length e2')).set (p := ⟨w.heap.size + 1 + 1, 4, none⟩) (by exact lt3) (.int .i64 I.size)).set (p := ⟨w.heap.size + 1 + 1, 5, none⟩) (by exact lt3) (.slice E3' (cutI I i j k).sets.length e3')).drew)
              have QB : Below w.heap.size w (((((((((((((wr.setCell ⟨w.heap.size + 1, 0, none⟩ (.int .i64 I.kind)).setCell ⟨w.heap.size + 1, 1, none⟩ (.int .i64 I.cap)).setCell ⟨w.heap.size + 1, 2, none⟩ (.slice D1 (cutI I i j k).items.length d1)).setCell ⟨w.heap.size + 1, 3, none⟩ (.slice D2 (cutI I i j k).cost.length d2)).setCell ⟨w.heap.size + 1, 4, none⟩ (.int .i64 I.size)).setCell ⟨w.heap.size + 1, 5, none⟩ (.slice D3 (cutI I i j k).sets.length d3)).setCell ⟨w.heap.size + 1 + 1, 0, none⟩ (.int .i64 I.kind)).setCell ⟨w.heap.size + 1 + 1, 1, none⟩ (.int .i64 I.cap)).setCell ⟨w.heap.size + 1 + 1, 2, none⟩ (.slice E1' (cutI I i j k).items.length e1')).setCell ⟨w.heap.size + 1 + 1, 3, none⟩ (.slice E2' (cutI I i j k).cost.length e2')).setCell ⟨w.heap.size + 1 + 1, 4, none⟩ (.int .i64 I.size)).setCell ⟨w.heap.size + 1 + 1, 5, none⟩ (.slice E3' (cutI I i j k).sets.length e3')).drew) := bl_drew (bl_set (bl_set (bl_set (bl_set (bl_set (bl_set (bl_set (bl_set (bl_set (bl_set (bl_set (bl_set HR.out.b (p := ⟨w.heap.size + 1, 0, none⟩) (by exact ge2) (.int .i64 I.kind)) (p := ⟨w.heap.size + 1, 1, none⟩) (by exact ge2) (.int .i64 I.cap)) (p := ⟨w.heap.size + 1, 2, none⟩) (by exact ge2) (.slice D1 (cutI I i j k).items.length d1)) (p := ⟨w.heap.size + 1, 3, none⟩) (by exact ge2) (.slice D2 (cutI I i j k).cost.length d2)) (p := ⟨w.heap.size + 1, 4, none⟩) (by exact ge2) (.int .i64 I.size)) (p := ⟨w.heap.size + 1, 5, none⟩) (by exact ge2) (.slice D3 (cutI I i j k).sets.length d3)) (p := ⟨w.heap.size + 1 + 1, 0, none⟩) (by exact ge3) (.int .i64 I.kind)) (p := ⟨w.heap.size + 1 + 1, 1, none⟩) (by exact ge3) (.int .i64 I.cap)) (p := ⟨w.heap.size + 1 + 1, 2, none⟩) (by exact ge3) (.slice E1' (cutI I i j k).items.length e1')) (p := ⟨w.heap.size + 1 + 1, 3, none⟩) (by exact ge3) (.slice E2' (cutI I i j k).cost.length e2')) (p := ⟨w.heap.size + 1 + 1, 4, none⟩) (by exact ge3) (.int .i64 I.size)) (p := ⟨w.heap.size + 1 + 1, 5, none⟩) (by exact ge3) (.slice E3' (cutI I i j k).sets.length e3'))
              have IN := Lib.hid (cutF_in HI.out.in_)
              have E := Lib.hid e
              clear e HR a_z a_c0 a_f0 a_c1 a_f1 a_c2 a_f2 a_c3 a_f3 a_c4 a_f4 a_c5 a_f5 b_z b_c0 b_f0 b_c1 b_f1 b_c2 b_f2 b_c3 b_f3 b_c4 b_f4 b_c5 b_f5 c_z c_c0 c_f0 c_c1 c_f1 c_c2 c_f2 c_c3 c_f3 c_c4 c_f4 c_c5 c_f5 d_z d_c0 d_f0 d_c1 d_f1 d_c2 d_f2 d_c3 d_f3 d_c4 d_f4 d_c5 d_f5 HI
              generalize ((((((((((((wr.setCell ⟨w.heap.size + 1, 0, none⟩ (.int .i64 I.kind)).setCell ⟨w.heap.size + 1, 1, none⟩ (.int .i64 I.cap)).setCell ⟨w.heap.size + 1, 2, none⟩ (.slice D1 (cutI I i j k).items.length d1)).setCell ⟨w.heap.size + 1, 3, none⟩ (.slice D2 (cutI I i j k).cost.length d2)).setCell ⟨w.heap.size + 1, 4, none⟩ (.int .i64 I.size)).setCell ⟨w.heap.size + 1, 5, none⟩ (.slice D3 (cutI I i j k).sets.length d3)).setCell ⟨w.heap.size + 1 + 1, 0, none⟩ (.int .i64 I.kind)).setCell ⟨w.heap.size + 1 + 1, 1, none⟩ (.int .i64 I.cap)).setCell ⟨w.heap.size + 1 + 1, 2, none⟩ (.slice E1' (cutI I i j k).items.length e1')).setCell ⟨w.heap.size + 1 + 1, 3, none⟩ (.slice E2' (cutI I i j k).cost.length e2')).setCell ⟨w.heap.size + 1 + 1, 4, none⟩ (.int .i64 I.size)).setCell ⟨w.heap.size + 1 + 1, 5, none⟩ (.slice E3' (cutI I i j k).sets.length e3')).drew = wz at Q2 Q3 QI QB ⊢
              have y_z : w.heap.size + 1 < wz.heap.size := Q2.lt
              have y_c0 : wz.cell? ⟨w.heap.size + 1, 0, none⟩ = some (.int .i64 I.kind) := (Q2.cell 0).trans rfl
              have y_f0 := Q2.frozen 0
              have y_c1 : wz.cell? ⟨w.heap.size + 1, 1, none⟩ = some (.int .i64 I.cap) := (Q2.cell 1).trans rfl
              have y_f1 := Q2.frozen 1
              have y_c2 : wz.cell? ⟨w.heap.size + 1, 2, none⟩ = some (.slice D1 (cutI I i j k).items.length d1) := (Q2.cell 2).trans rfl
              have y_f2 := Q2.frozen 2
              have y_c3 : wz.cell? ⟨w.heap.size + 1, 3, none⟩ = some (.slice D2 (cutI I i j k).cost.length d2) := (Q2.cell 3).trans rfl
              have y_f3 := Q2.frozen 3
              have y_c4 : wz.cell? ⟨w.heap.size + 1, 4, none⟩ = some (.int .i64 I.size) := (Q2.cell 4).trans rfl
              have y_f4 := Q2.frozen 4
              have y_c5 : wz.cell? ⟨w.heap.size + 1, 5, none⟩ = some (.slice D3 (cutI I i j k).sets.length d3) := (Q2.cell 5).trans rfl
              have y_f5 := Q2.frozen 5
              have x_z : w.heap.size + 1 + 1 < wz.heap.size := Q3.lt
              have x_c0 : wz.cell? ⟨w.heap.size + 1 + 1, 0, none⟩ = some (.int .i64 I.kind) := (Q3.cell 0).trans rfl
              have x_f0 := Q3.frozen 0
              have x_c1 : wz.cell? ⟨w.heap.size + 1 + 1, 1, none⟩ = some (.int .i64 I.cap) := (Q3.cell 1).trans rfl
              have x_f1 := Q3.frozen 1
              have x_c2 : wz.cell? ⟨w.heap.size + 1 + 1, 2, none⟩ = some (.slice E1' (cutI I i j k).items.length e1') := (Q3.cell 2).trans rfl
              have x_f2 := Q3.frozen 2
              have x_c3 : wz.cell? ⟨w.heap.size + 1 + 1, 3, none⟩ = some (.slice E2' (cutI I i j k).cost.length e2') := (Q3.cell 3).trans rfl
              have x_f3 := Q3.frozen 3
              have x_c4 : wz.cell? ⟨w.heap.size + 1 + 1, 4, none⟩ = some (.int .i64 I.size) := (Q3.cell 4).trans rfl
              have x_f4 := Q3.frozen 4
              have x_c5 : wz.cell? ⟨w.heap.size + 1 + 1, 5, none⟩ = some (.slice E3' (cutI I i j k).sets.length e3') := (Q3.cell 5).trans rfl
              have x_f5 := Q3.frozen 5
              refine bodyPost_ret (v := .tuple #[.agg #[.int .i64 I.kind, .int .i64 I.cap, .slice D1 (cutI I i j k).items.length d1, .slice D2 (cutI I i j k).cost.length d2, .int .i64 I.size, .slice D3 (cutI I i j k).sets.length d3], .agg #[.int .i64 I.kind, .int .i64 I.cap, .slice E1' (cutI I i j k).items.length e1', .slice E2' (cutI I i j k).cost.length e2', .int .i64 I.size, .slice E3' (cutI I i j k).sets.length e3']]) (by simp [results, Tryd.results8, go_sem, y_c0, y_f0, y_c1, y_f1, y_c2, y_f2, y_c3, y_f3, y_c4, y_f4, y_c5, y_f5, x_c0, x_f0, x_c1, x_f1, x_c2, x_f2, x_c3, x_f3, x_c4, x_f4, x_c5, x_f5, y_z, x_z]) rfl ⟨D1, d1, D2, d2, D3, d3, E1', e1', E2', e2', E3', e3', by rw [E.out], ?_, QB⟩
              have HW := QI.out
              rw [E.out] at HW
              exact InsR.both HW IN.out
end Go.Proofs.YteddbdmddgmicaaDoor
