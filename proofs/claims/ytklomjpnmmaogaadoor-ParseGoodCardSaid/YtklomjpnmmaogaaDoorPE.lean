/- A method of the reader that makes an instance: its variables, and how they go on. Plain. -/
import Derived.Test.YtklomjpnmmaogaaDoorPD
import Derived.Test.YtklomjpnmmaogaaDoorIO
namespace Go.Proofs.YtklomjpnmmaogaaDoor
open Go Go.RowKit
set_option linter.unusedVariables false
set_option linter.unusedSimpArgs false
set_option maxRecDepth 100000

theorem pinfo_P : (Tryd.prog.info? 82).map (fun i => (i.zero, i.size, i.bytes)) = some (some (.agg #[.int .i64 0, .int .i64 0]), 2, 16) := by kernel_rfl
theorem pinfo_S : (Tryd.prog.info? 80).map (fun i => (i.zero, i.size, i.bytes)) = some (some (.agg #[.int .i64 0, .slice none 0 0]), 2, 32) := by kernel_rfl
theorem pinfo_R : (Tryd.prog.info? 88).map (fun i => (i.zero, i.size, i.bytes)) = some (some (.slice none 0 0), 1, 24) := by kernel_rfl
theorem pinfo_I : (Tryd.prog.info? 2).map (fun i => (i.zero, i.size, i.bytes)) = some (some (.int .i64 0), 1, 8) := by kernel_rfl
theorem pinfo_N : (Tryd.prog.info? 3).map (fun i => (i.zero, i.size, i.bytes)) = some (some (.int .i64 0), 1, 8) := by kernel_rfl
theorem preads2 {w : World} {g : Nat} {t : TypeId} {x y : Value} (h : Blk w g t #[x, y]) : Reads w (g + 1) 2 (some ⟨g, 0, none⟩) 1 [x, y] :=
  ⟨rfl, fun _ => ⟨g, 0, rfl, by omega, fun j u hu => by rw [Nat.zero_add, h.cell j, ← hu]; exact List.getElem?_toArray⟩⟩
theorem preads1 {w : World} {g : Nat} {t : TypeId} {x : Value} (h : Blk w g t #[x]) : Reads w (g + 1) 1 (some ⟨g, 0, none⟩) 1 [x] :=
  ⟨rfl, fun _ => ⟨g, 0, rfl, by omega, fun j u hu => by rw [Nat.zero_add, h.cell j, ← hu]; exact List.getElem?_toArray⟩⟩
section
variable {w wr W : World} {g c q at_ at' base : Nat} {A : Option Addr} {L : List Tok} {cs cs' : Array Value} {e tr te ts : TypeId} {sz n : Nat} {v : Value} {xs : List Value}
/-- A pair more. -/
theorem p_pair {ti : TypeId} {t ty : TypeId} (ht : Tryd.prog.underlying t = some (.slice ti)) (hinfo : (Tryd.prog.info? ti).map (fun i => (i.zero, i.size, i.bytes)) = some (some (.agg #[.int .i64 0, .int .i64 0]), 2, 16)) {l : List (Int × Int)} (ho : OwnP wr base ti v l) {b : Nat} {tb : TypeId} {x y : Int} (hb : Blk wr b tb #[.int .i64 x, .int .i64 y]) (hn : l.length ≤ 5000) (hq : base ≤ wr.heap.size) :
    ∃ D d w', (Builtin.append_ #[t, t] ty #[v, .slice (some ⟨b, 0, none⟩) 1 1]).run Tryd.prog wr = .ok (.slice D (l.length + 1) d) w' ∧ OwnP w' base ti (.slice D (l.length + 1) d) (l ++ [(x, y)]) ∧ wr.grownBy w' v.ownBlock := by
  obtain ⟨v', w', h1, h2, h3, h4⟩ := run_app (ty := ty) (c := 1) ht hinfo rfl (by omega) ho (preads2 hb) (by intro u hu; simp at hu; rcases hu with rfl | rfl <;> rfl) (by unfold maxLen; omega) (by omega) hq
  obtain ⟨D, d, rfl, _⟩ := own_slice h2
  refine ⟨D, d, w', h1, ?_, h3⟩
  have e : flat2 ((l ++ [(x, y)]).map pairI) = flat2 (l.map pairI) ++ [.int .i64 x, .int .i64 y] := by rw [List.map_append]; exact flat2_app _ (pairI (x, y))
  unfold OwnP
  rw [e, List.length_append]
  exact h2
/-- A number more. -/
theorem p_num {t ty : TypeId} (ht : Tryd.prog.underlying t = some (.slice te)) (hinfo : (Tryd.prog.info? te).map (fun i => (i.zero, i.size, i.bytes)) = some (some (.int .i64 0), 1, 8)) {l : List Int} (ho : wr.ownsRow base te 1 v l.length (l.map (Value.int .i64))) {b : Nat} {tb : TypeId} {x : Int} (hb : Blk wr b tb #[.int .i64 x]) (hn : l.length ≤ 281474976710656) (hn2 : (l.length + 1) * 8 ≤ 140737488355328) (hq : base ≤ wr.heap.size) :
    ∃ D d w', (Builtin.append_ #[t, t] ty #[v, .slice (some ⟨b, 0, none⟩) 1 1]).run Tryd.prog wr = .ok (.slice D (l.length + 1) d) w' ∧ w'.ownsRow base te 1 (.slice D (l.length + 1) d) (l ++ [x]).length ((l ++ [x]).map (Value.int .i64)) ∧ wr.grownBy w' v.ownBlock := by
  obtain ⟨v', w', h1, h2, h3, h4⟩ := run_app (ty := ty) (c := 1) ht hinfo rfl (by omega) ho (preads1 hb) (by intro u hu; simp at hu; subst hu; rfl) (by unfold maxLen; omega) (by omega) hq
  obtain ⟨D, d, rfl, _⟩ := own_slice h2
  refine ⟨D, d, w', h1, ?_, h3⟩
  rw [List.length_append, List.map_append]
  exact h2
theorem p_oth (h : wr.ownsRow base e sz v n xs) {e0 : TypeId} {s0 n0 : Nat} {v0 : Value} {xs0 : List Value} (h0 : wr.ownsRow base e0 s0 v0 n0 xs0) (hne : e0 ≠ e) (hg : wr.grownBy W v0.ownBlock) : W.ownsRow base e sz v n xs := by
  refine h.kept hg ?_
  rcases hb : v0.ownBlock with _ | g
  · rcases hv : v.ownBlock with _ | k
    · exact .inl rfl
    · exact .inr (by simp)
  · exact .inr (own_apart h0 h hne hb)
theorem p_snoc {α : Type} {l : List α} {x y : α} {i : Nat} (h : (l ++ [x])[i]? = some y) : (i < l.length ∧ l[i]? = some y) ∨ (i = l.length ∧ y = x) := by
  rw [List.getElem?_append] at h
  split at h
  · exact .inl ⟨by assumption, h⟩
  · rename_i hh
    right
    have : i - l.length = 0 := by
      have := (List.getElem?_eq_some_iff.1 h).1
      simp at this
      omega
    rw [this] at h
    simp at h
    exact ⟨by omega, h.symm⟩
/-- A row more. -/
theorem p_row {t ty : TypeId} (ht : Tryd.prog.underlying t = some (.slice tr)) (hne : tr ≠ te) (hinfo : (Tryd.prog.info? tr).map (fun i => (i.zero, i.size, i.bytes)) = some (some (.slice none 0 0), 1, 24)) {l : List (List Int)} (ho : OwnR wr base tr te v l) {b : Nat} {tb : TypeId} {r : List Int} {E : Option Addr} {f : Nat} (hx : wr.ownsRow base te 1 (.slice E r.length f) r.length (r.map (Value.int .i64))) (hb : Blk wr b tb #[.slice E r.length f]) (hn : l.length ≤ 5000) (hq : base ≤ wr.heap.size) :
    ∃ D d w', (Builtin.append_ #[t, t] ty #[v, .slice (some ⟨b, 0, none⟩) 1 1]).run Tryd.prog wr = .ok (.slice D (l.length + 1) d) w' ∧ OwnR w' base tr te (.slice D (l.length + 1) d) (l ++ [r]) ∧ wr.grownBy w' v.ownBlock ∧ (∀ k, v.ownBlock = some k → base ≤ k) := by
  obtain ⟨us, hl, h0, hu⟩ := ho
  obtain ⟨v', w', h1, h2, h3, h4⟩ := run_app (ty := ty) (c := 1) ht hinfo rfl (by omega) h0 (preads1 hb) (by intro u hu; simp at hu; subst hu; rfl) (by unfold maxLen; omega) (by omega) hq
  obtain ⟨D, d, rfl, _⟩ := own_slice h2
  refine ⟨D, d, w', h1, ⟨us ++ [.slice E r.length f], by simp [hl], by rw [List.length_append]; exact h2, fun i r' u a b => ?_⟩, h3, own_base h0⟩
  rcases p_snoc a with ⟨a1, a2⟩ | ⟨rfl, rfl⟩
  · rcases p_snoc b with ⟨b1, b2⟩ | ⟨rfl, rfl⟩
    · exact p_oth (hu i r' u a2 b2) h0 hne h3
    · omega
  · rcases p_snoc b with ⟨b1, b2⟩ | ⟨_, rfl⟩
    · omega
    · exact p_oth hx h0 hne h3
/-- A set more. -/
theorem p_set {t ty : TypeId} (ht : Tryd.prog.underlying t = some (.slice ts)) (hne : ts ≠ te) (hinfo : (Tryd.prog.info? ts).map (fun i => (i.zero, i.size, i.bytes)) = some (some (.agg #[.int .i64 0, .slice none 0 0]), 2, 32)) {l : List (Int × List Int)} (ho : OwnS wr base ts te v l) {b : Nat} {tb : TypeId} {x : Int} {r : List Int} {E : Option Addr} {f : Nat} (hx : wr.ownsRow base te 1 (.slice E r.length f) r.length (r.map (Value.int .i64))) (hb : Blk wr b tb #[.int .i64 x, .slice E r.length f]) (hn : l.length ≤ 5000) (hq : base ≤ wr.heap.size) :
    ∃ D d w', (Builtin.append_ #[t, t] ty #[v, .slice (some ⟨b, 0, none⟩) 1 1]).run Tryd.prog wr = .ok (.slice D (l.length + 1) d) w' ∧ OwnS w' base ts te (.slice D (l.length + 1) d) (l ++ [(x, r)]) ∧ wr.grownBy w' v.ownBlock ∧ (∀ k, v.ownBlock = some k → base ≤ k) := by
  obtain ⟨us, hl, h0, hu⟩ := ho
  obtain ⟨v', w', h1, h2, h3, h4⟩ := run_app (ty := ty) (c := 1) ht hinfo rfl (by omega) h0 (preads2 hb) (by intro u hu; simp at hu; rcases hu with rfl | rfl <;> rfl) (by unfold maxLen; omega) (by omega) hq
  obtain ⟨D, d, rfl, _⟩ := own_slice h2
  refine ⟨D, d, w', h1, ⟨us ++ [(.int .i64 x, .slice E r.length f)], by simp [hl], by rw [List.length_append, flat2_app]; exact h2, fun i r' u a b => ?_⟩, h3, own_base h0⟩
  rcases p_snoc a with ⟨a1, a2⟩ | ⟨rfl, rfl⟩
  · rcases p_snoc b with ⟨b1, b2⟩ | ⟨rfl, rfl⟩
    · exact ⟨(hu i r' u a2 b2).1, p_oth (hu i r' u a2 b2).2 h0 hne h3⟩
    · omega
  · rcases p_snoc b with ⟨b1, b2⟩ | ⟨_, rfl⟩
    · omega
    · exact ⟨rfl, p_oth hx h0 hne h3⟩
/-- What is owned above the reader stands while the reader reads. -/
theorem own_rd (h : wr.ownsRow base e sz v n xs) (hG : Gr wr g W) (hb : g < base) : W.ownsRow base e sz v n xs := own_gr h hG (fun e => by have := own_base h _ e; omega)
theorem OwnP.rd_ {l : List (Int × Int)} (h : OwnP wr base e v l) (hG : Gr wr g W) (hb : g < base) : OwnP W base e v l := own_rd h hG hb
theorem OwnR.rd_ {rows : List (List Int)} (h : OwnR wr base tr te v rows) (hG : Gr wr g W) (hb : g < base) : OwnR W base tr te v rows := by
  obtain ⟨us, h1, h2, h3⟩ := h
  exact ⟨us, h1, own_rd h2 hG hb, fun i r u a b => own_rd (h3 i r u a b) hG hb⟩
theorem OwnS.rd_ {l : List (Int × List Int)} (h : OwnS wr base ts te v l) (hG : Gr wr g W) (hb : g < base) : OwnS W base ts te v l := by
  obtain ⟨us, h1, h2, h3⟩ := h
  exact ⟨us, h1, own_rd h2 hG hb, fun i r u a b => ⟨(h3 i r u a b).1, own_rd (h3 i r u a b).2 hG hb⟩⟩
theorem Rd.kept (h : Rd wr g A c L at_) {row : Option Nat} (hg : wr.grownBy W row) (hr : ∀ k, row = some k → g < k) : Rd W g A c L at_ :=
  ⟨h.box.grown hg (fun e => by have := hr g e.symm; omega), h.toks.keep (fun p hp => hg.cell_far p (by have := h.box.lt; omega) (fun e => by have := hr p.block e.symm; omega)), h.cap, h.ends⟩
theorem Rd.gr (h : Rd wr g A c L at_) {k : Nat} (hG : Gr wr k W) (hk : g < k) : Rd W g A c L at_ := h.kept hG.out (fun j e => by injection e with e; omega)
/-- The variables: the result, the instance that grows, the reader. -/
structure FrR (wr w : World) (g : Nat) (A : Option Addr) (c : Nat) (L : List Tok) (q at_ : Nat) (cs : Array Value) : Prop where
  gr : Gr w g wr
  rd : Rd wr g A c L at_
  res : Blk wr w.heap.size 27 #[.int .i64 0, .int .i64 0, .slice none 0 0, .slice none 0 0, .int .i64 0, .slice none 0 0]
  box : Blk wr q 27 cs
  hq : w.heap.size < q
  hg : g < w.heap.size
theorem FrR.size (h : FrR wr w g A c L q at_ cs) : q + 1 ≤ wr.heap.size := h.box.lt
theorem FrR.below (h : FrR wr w g A c L q at_ cs) (hb : Below wr.heap.size wr W) : FrR W w g A c L q at_ cs := ⟨h.gr.below hb, h.rd.below hb, h.res.below hb, h.box.below hb, h.hq, h.hg⟩
theorem FrR.drew (h : FrR wr w g A c L q at_ cs) : FrR wr.drew w g A c L q at_ cs := h.below (bl_drew (Below.refl _ _))
theorem FrR.alloc (h : FrR wr w g A c L q at_ cs) (o : Obj) : FrR (wr.alloc o) w g A c L q at_ cs := h.below (bl_alloc (Below.refl _ _) _)
theorem FrR.meth (h : FrR wr w g A c L q at_ cs) (hG : Gr wr g W) (hR : Rd W g A c L at') : FrR W w g A c L q at' cs :=
  ⟨h.gr.step hG, hR, h.res.gr hG (by have := h.hg; omega), h.box.gr hG (by have := h.hg; have := h.hq; omega), h.hq, h.hg⟩
theorem FrR.next (h : FrR wr w g A c L q at_ cs) (hk : ¬ (headT (L.drop at_)).kind = 3) : L.drop (at_ + 1) = (L.drop at_).tail ∧ FrR (wr.setCell ⟨g, 1, none⟩ (.int .i64 ((at_ : Int) + 1))) w g A c L q (at_ + 1) cs :=
  ⟨(h.rd.step hk).1, h.meth ((Gr.refl wr g).set (p := ⟨g, 1, none⟩) (.inl rfl) _) (h.rd.step hk).2⟩
theorem FrR.wrap (h : FrR wr w g A c L q at_ cs) : IntKind.i64.wrap ((at_ : Int) + 1) = (at_ : Int) + 1 := by have := h.rd.lt; have := h.rd.cap; rw [IntKind.wrap_i64]; omega
theorem FrR.put (h : FrR wr w g A c L q at_ cs) (i : Nat) (u : Value) (e : cs.setIfInBounds i u = cs') : FrR (wr.setCell ⟨q, i, none⟩ u) w g A c L q at_ cs' :=
  ⟨h.gr.set (p := ⟨q, i, none⟩) (.inr (Nat.le_of_lt h.hq)) u, h.rd.far (p := ⟨q, i, none⟩) (Nat.lt_trans h.hg h.hq) u, h.res.far (p := ⟨q, i, none⟩) (Nat.ne_of_lt h.hq) u, h.box.put i u e, h.hq, h.hg⟩
theorem FrR.grown (h : FrR wr w g A c L q at_ cs) (hk : ∀ k, v.ownBlock = some k → q + 1 ≤ k) (hg : wr.grownBy W v.ownBlock) : FrR W w g A c L q at_ cs :=
  have h1 := h.hq
  have h2 := h.hg
  ⟨h.gr.grown hg (fun k e => by have := hk k e; omega), h.rd.kept hg (fun k e => by have := hk k e; omega), h.res.grown hg (fun e => by have := hk _ e.symm; omega), h.box.grown hg (fun e => by have := hk _ e.symm; omega), h1, h2⟩
end
/-- Three slices that a call owns. -/
structure Own3 (w : World) (base : Nat) (ti ts : TypeId) (I : IData) (A1 : Option Addr) (c1 : Nat) (A2 : Option Addr) (c2 : Nat) (A3 : Option Addr) (c3 : Nat) : Prop where
  items : OwnP w base ti (.slice A1 I.items.length c1) I.items
  cost : OwnR w base 88 2 (.slice A2 I.cost.length c2) I.cost
  sets : OwnS w base ts 3 (.slice A3 I.sets.length c3) I.sets
section
variable {w w' : World} {base base' : Nat} {ti ts : TypeId} {I : IData} {A1 A2 A3 : Option Addr} {c1 c2 c3 : Nat}
theorem Own3.below (h : Own3 w base ti ts I A1 c1 A2 c2 A3 c3) (hb : Below w.heap.size w w') : Own3 w' base ti ts I A1 c1 A2 c2 A3 c3 := ⟨h.items.below hb, h.cost.below hb, h.sets.below hb⟩
theorem Own3.more (h : Own3 w base ti ts I A1 c1 A2 c2 A3 c3) (hb : base' ≤ base) : Own3 w base' ti ts I A1 c1 A2 c2 A3 c3 := ⟨own_more h.items hb, h.cost.more hb, h.sets.more hb⟩
theorem Own3.set (h : Own3 w base ti ts I A1 c1 A2 c2 A3 c3) {p : Addr} (hp : p.block < base) (u : Value) : Own3 (w.setCell p u) base ti ts I A1 c1 A2 c2 A3 c3 := ⟨h.items.set hp u, h.cost.set hp u, h.sets.set hp u⟩
theorem Own3.gr {g : Nat} (h : Own3 w base ti ts I A1 c1 A2 c2 A3 c3) (hG : Gr w g w') (hb : g < base) : Own3 w' base ti ts I A1 c1 A2 c2 A3 c3 := ⟨h.items.rd_ hG hb, h.cost.rd_ hG hb, h.sets.rd_ hG hb⟩
theorem Own3.inst (h : Own3 w base ti ts I A1 c1 A2 c2 A3 c3) (hi : IIn I) : InstAt w w.heap.size I A1 c1 A2 c2 A3 c3 := by
  refine ⟨Reads.of_own h.items, h.cost.rd, h.sets.rd, cap_of h.items, ?_, ?_, hi, Nat.le_refl _⟩
  · obtain ⟨us, _, h2, _⟩ := h.cost
    exact cap_of h2
  · obtain ⟨us, _, h2, _⟩ := h.sets
    exact cap_of h2
theorem r_nil (w : World) (base : Nat) (tr te : TypeId) : OwnR w base tr te (.slice none 0 0) [] := ⟨[], rfl, own_nil _ _ _ _, fun i r u hr => by simp at hr⟩
theorem s_nil (w : World) (base : Nat) (ts te : TypeId) : OwnS w base ts te (.slice none 0 0) [] := ⟨[], rfl, own_nil _ _ _ _, fun i r u hr => by simp at hr⟩
end
theorem num_len {lo hi v : Int} {l r : List Tok} (h : numP lo hi l = .ok v r) : r.length ≤ l.length := by
  unfold numP at h
  split at h
  · split at h
    · cases h
    · injection h with _ h; rw [← h, List.length_tail]; omega
  · cases h
theorem num_bd {lo hi v : Int} {l r : List Tok} (h : numP lo hi l = .ok v r) : lo ≤ v ∧ v ≤ hi := by
  unfold numP at h
  split at h
  · split at h
    · cases h
    · injection h with h _; omega
  · cases h
theorem take_len {k : Int} {t : Tok} {l r : List Tok} (h : takeP k l = .ok t r) : r.length ≤ l.length := by
  unfold takeP at h
  split at h
  · injection h with _ h; rw [← h, List.length_tail]; omega
  · cases h
theorem elems_len {size : Int} : ∀ (f : Nat) (last : Int) (acc es : List Int) (l r : List Tok), elemsP size f last acc l = .ok es r → r.length ≤ l.length
  | 0, last, acc, es, l, r, h => by
    injection h with _ h; rw [← h]; exact Nat.le_refl _
  | f + 1, last, acc, es, l, r, h => by
    rw [elemsP] at h
    split at h
    · split at h
      · cases h
      · have := elems_len f _ _ _ _ _ h
        rw [List.length_tail] at this
        omega
    · injection h with _ h; rw [← h]; exact Nat.le_refl _
/-- An instance that is handed back. -/
def KV (w : World) (I : IData) (e : Ending) (w' : World) : Prop := ∃ D1 d1 D2 d2 D3 d3, e = .returned (.agg #[.int .i64 I.kind, .int .i64 I.cap, .slice D1 I.items.length d1, .slice D2 I.cost.length d2, .int .i64 I.size, .slice D3 I.sets.length d3]) ∧
  Own3 w' w.heap.size 82 80 I D1 d1 D2 d2 D3 d3
theorem Rd.res6 {w : World} {g c at_ r : Nat} {A : Option Addr} {L : List Tok} (h : Rd w g A c L at_) (hr : g < r) (a b c' d e f : Value) : Rd ((((((w.setCell ⟨r, 0, none⟩ a).setCell ⟨r, 1, none⟩ b).setCell ⟨r, 2, none⟩ c').setCell ⟨r, 3, none⟩ d).setCell ⟨r, 4, none⟩ e).setCell ⟨r, 5, none⟩ f) g A c L at_ :=
  (((((h.far (p := ⟨r, 0, none⟩) hr _).far (p := ⟨r, 1, none⟩) hr _).far (p := ⟨r, 2, none⟩) hr _).far (p := ⟨r, 3, none⟩) hr _).far (p := ⟨r, 4, none⟩) hr _).far (p := ⟨r, 5, none⟩) hr _
theorem Gr.res6 {w W : World} {g r : Nat} (h : Gr w g W) (hr : w.heap.size ≤ r) (a b c' d e f : Value) : Gr w g ((((((W.setCell ⟨r, 0, none⟩ a).setCell ⟨r, 1, none⟩ b).setCell ⟨r, 2, none⟩ c').setCell ⟨r, 3, none⟩ d).setCell ⟨r, 4, none⟩ e).setCell ⟨r, 5, none⟩ f) :=
  (((((h.set (p := ⟨r, 0, none⟩) (.inr hr) _).set (p := ⟨r, 1, none⟩) (.inr hr) _).set (p := ⟨r, 2, none⟩) (.inr hr) _).set (p := ⟨r, 3, none⟩) (.inr hr) _).set (p := ⟨r, 4, none⟩) (.inr hr) _).set (p := ⟨r, 5, none⟩) (.inr hr) _
theorem Own3.res6 {w : World} {base r : Nat} {ti ts : TypeId} {I : IData} {A1 A2 A3 : Option Addr} {c1 c2 c3 : Nat} (h : Own3 w base ti ts I A1 c1 A2 c2 A3 c3) (hr : r < base) (a b c' d e f : Value) : Own3 ((((((w.setCell ⟨r, 0, none⟩ a).setCell ⟨r, 1, none⟩ b).setCell ⟨r, 2, none⟩ c').setCell ⟨r, 3, none⟩ d).setCell ⟨r, 4, none⟩ e).setCell ⟨r, 5, none⟩ f) base ti ts I A1 c1 A2 c2 A3 c3 :=
  (((((h.set (p := ⟨r, 0, none⟩) hr _).set (p := ⟨r, 1, none⟩) hr _).set (p := ⟨r, 2, none⟩) hr _).set (p := ⟨r, 3, none⟩) hr _).set (p := ⟨r, 4, none⟩) hr _).set (p := ⟨r, 5, none⟩) hr _
/-- The end: the instance is stored into the result. -/
theorem FrR.fin {wr w : World} {g c q at_ : Nat} {A : Option Addr} {L : List Tok} {cs : Array Value} (h : FrR wr w g A c L q at_ cs) {I : IData} {D1 D2 D3 : Option Addr} {d1 d2 d3 : Nat} {T : PR IData} {a b c' d e f v : Value} (hv : v = .agg #[.int .i64 I.kind, .int .i64 I.cap, .slice D1 I.items.length d1, .slice D2 I.cost.length d2, .int .i64 I.size, .slice D3 I.sets.length d3]) (ho : Own3 wr (q + 1) 82 80 I D1 d1 D2 d2 D3 d3) (hT : T = .ok I (L.drop at_)) :
    Rp w g A c L T (KV w) (.returned v) ((((((wr.setCell ⟨w.heap.size, 0, none⟩ a).setCell ⟨w.heap.size, 1, none⟩ b).setCell ⟨w.heap.size, 2, none⟩ c').setCell ⟨w.heap.size, 3, none⟩ d).setCell ⟨w.heap.size, 4, none⟩ e).setCell ⟨w.heap.size, 5, none⟩ f) := by
  have h1 := h.hq
  exact ⟨h.gr.res6 (Nat.le_refl _) _ _ _ _ _ _, .inr ⟨I, at_, hT, ⟨D1, d1, D2, d2, D3, d3, by rw [hv], (ho.res6 (by omega) _ _ _ _ _ _).more (by omega)⟩, h.rd.res6 h.hg _ _ _ _ _ _⟩⟩
end Go.Proofs.YtklomjpnmmaogaaDoor
