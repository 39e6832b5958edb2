/- What stands while numbers of a copy are turned: the shape of its lists; it says nothing on the numbers themselves. -/
import Derived.Test.YteddbdmddgmicaaDoorIM
namespace Go.Proofs.YteddbdmddgmicaaDoor
open Go Go.RowKit
set_option linter.unusedVariables false
set_option linter.unusedSimpArgs false
set_option maxRecDepth 100000

/-- A cell of the copy's own that holds a number. -/
def IntC (w : World) (L B b o : Nat) : Prop := L ≤ b ∧ b < B ∧ w.frozen? ⟨b, o, none⟩ = false ∧ ∃ z, w.cell? ⟨b, o, none⟩ = some (.int .i64 z) ∧ InI z
def ShN (w : World) (L B : Nat) (A : Option Addr) (n : Nat) : Prop := 0 < n → ∃ b o, A = some ⟨b, o, none⟩ ∧ ∀ j, j < n → IntC w L B b (o + j)
def ShP (w : World) (L B : Nat) (A : Option Addr) (n : Nat) : Prop := 0 < n → ∃ b o, A = some ⟨b, o, none⟩ ∧ ∀ j, j < n → IntC w L B b (o + j * 2) ∧ IntC w L B b (o + j * 2 + 1)
def ShR (w : World) (L B : Nat) (A : Option Addr) (n : Nat) : Prop := 0 < n → ∃ b o, A = some ⟨b, o, none⟩ ∧ b < B ∧ ∀ j, j < n → ∃ A' m c', w.cell? ⟨b, o + j, none⟩ = some (.slice A' m c') ∧ m ≤ c' ∧ c' ≤ 9223372036854775807 ∧ ShN w L B A' m
def ShS (w : World) (L B : Nat) (A : Option Addr) (n : Nat) : Prop := 0 < n → ∃ b o, A = some ⟨b, o, none⟩ ∧ b < B ∧ ∀ j, j < n → IntC w L B b (o + j * 2) ∧ ∃ A' m c', w.cell? ⟨b, o + j * 2 + 1, none⟩ = some (.slice A' m c') ∧ m ≤ c' ∧ c' ≤ 9223372036854775807 ∧ ShN w L B A' m
section
variable {w w' w1 : World} {L B b o b' o' n : Nat} {A : Option Addr} {z : Int}
theorem IntC.put (h : IntC w L B b o) (hp : IntC w L B b' o') (hz : InI z) : IntC (w.setCell ⟨b', o', none⟩ (.int .i64 z)) L B b o := by
  obtain ⟨h1, h2, h3, x, h4, h5⟩ := h
  refine ⟨h1, h2, by rw [World.frozen?_setCell]; exact h3, ?_⟩
  by_cases e : (⟨b, o, none⟩ : Addr) = ⟨b', o', none⟩
  · rw [← e]
    exact ⟨z, World.cell?_setCell_same _ _ _ h4, hz⟩
  · exact ⟨x, by rw [World.cell?_setCell_other _ _ _ _ (Ne.symm e)]; exact h4, h5⟩
theorem hdr_put {q : Addr} {m c : Nat} {A' : Option Addr} (h : w.cell? q = some (.slice A' m c)) (hp : IntC w L B b' o') : (w.setCell ⟨b', o', none⟩ (.int .i64 z)).cell? q = some (.slice A' m c) := by
  obtain ⟨_, _, _, x, h4, _⟩ := hp
  rw [World.cell?_setCell_other _ _ _ _ (fun e => by rw [← e, h4] at h; simp at h)]
  exact h
theorem ShN.put (h : ShN w L B A n) (hp : IntC w L B b' o') (hz : InI z) : ShN (w.setCell ⟨b', o', none⟩ (.int .i64 z)) L B A n := fun hn => by
  obtain ⟨b, o, e, hc⟩ := h hn
  exact ⟨b, o, e, fun j hj => (hc j hj).put hp hz⟩
theorem ShP.put (h : ShP w L B A n) (hp : IntC w L B b' o') (hz : InI z) : ShP (w.setCell ⟨b', o', none⟩ (.int .i64 z)) L B A n := fun hn => by
  obtain ⟨b, o, e, hc⟩ := h hn
  exact ⟨b, o, e, fun j hj => ⟨(hc j hj).1.put hp hz, (hc j hj).2.put hp hz⟩⟩
theorem ShR.put (h : ShR w L B A n) (hp : IntC w L B b' o') (hz : InI z) : ShR (w.setCell ⟨b', o', none⟩ (.int .i64 z)) L B A n := fun hn => by
  obtain ⟨b, o, e, hb, hc⟩ := h hn
  refine ⟨b, o, e, hb, fun j hj => ?_⟩
  obtain ⟨A', m, c', e1, e2, e3, e4⟩ := hc j hj
  exact ⟨A', m, c', hdr_put e1 hp, e2, e3, e4.put hp hz⟩
theorem ShS.put (h : ShS w L B A n) (hp : IntC w L B b' o') (hz : InI z) : ShS (w.setCell ⟨b', o', none⟩ (.int .i64 z)) L B A n := fun hn => by
  obtain ⟨b, o, e, hb, hc⟩ := h hn
  refine ⟨b, o, e, hb, fun j hj => ?_⟩
  obtain ⟨h0, A', m, c', e1, e2, e3, e4⟩ := hc j hj
  exact ⟨h0.put hp hz, A', m, c', hdr_put e1 hp, e2, e3, e4.put hp hz⟩
/-- Worlds that are alike below B. -/
def Alike2 (B : Nat) (w w' : World) : Prop := ∀ b o, b < B → w'.cell? ⟨b, o, none⟩ = w.cell? ⟨b, o, none⟩ ∧ w'.frozen? ⟨b, o, none⟩ = w.frozen? ⟨b, o, none⟩
theorem Alike2.of_below (h : Below w.heap.size w w') (hB : B ≤ w.heap.size) : Alike2 B w w' := fun b o hb => ⟨h.cell (p := ⟨b, o, none⟩) (Nat.lt_of_lt_of_le hb hB), h.frozen (p := ⟨b, o, none⟩) (Nat.lt_of_lt_of_le hb hB)⟩
theorem IntC.keep (h : IntC w L B b o) (k : Alike2 B w w') : IntC w' L B b o := by
  obtain ⟨h1, h2, h3, x, h4, h5⟩ := h
  obtain ⟨k1, k2⟩ := k b o h2
  exact ⟨h1, h2, k2.trans h3, x, k1.trans h4, h5⟩
theorem ShN.keep (h : ShN w L B A n) (k : Alike2 B w w') : ShN w' L B A n := fun hn => by
  obtain ⟨b, o, e, hc⟩ := h hn
  exact ⟨b, o, e, fun j hj => (hc j hj).keep k⟩
theorem ShP.keep (h : ShP w L B A n) (k : Alike2 B w w') : ShP w' L B A n := fun hn => by
  obtain ⟨b, o, e, hc⟩ := h hn
  exact ⟨b, o, e, fun j hj => ⟨(hc j hj).1.keep k, (hc j hj).2.keep k⟩⟩
theorem ShR.keep (h : ShR w L B A n) (k : Alike2 B w w') : ShR w' L B A n := fun hn => by
  obtain ⟨b, o, e, hb, hc⟩ := h hn
  refine ⟨b, o, e, hb, fun j hj => ?_⟩
  obtain ⟨A', m, c', e1, e2, e3, e4⟩ := hc j hj
  exact ⟨A', m, c', (k b _ hb).1.trans e1, e2, e3, e4.keep k⟩
theorem ShS.keep (h : ShS w L B A n) (k : Alike2 B w w') : ShS w' L B A n := fun hn => by
  obtain ⟨b, o, e, hb, hc⟩ := h hn
  refine ⟨b, o, e, hb, fun j hj => ?_⟩
  obtain ⟨h0, A', m, c', e1, e2, e3, e4⟩ := hc j hj
  exact ⟨h0.keep k, A', m, c', (k b _ hb).1.trans e1, e2, e3, e4.keep k⟩
theorem own_cells {base : Nat} {e : TypeId} {size c : Nat} {xs : List Value} (h : w.ownsRow base e size (.slice A n c) n xs) (hs : 0 < size) (hn : 0 < n) : ∃ g, A = some ⟨g, 0, none⟩ ∧ base ≤ g ∧ g < w.heap.size ∧ (∀ j u, xs[j]? = some u → w.cell? ⟨g, 0 + j, none⟩ = some u) ∧ ∀ j, w.frozen? ⟨g, j, none⟩ = false := by
  obtain ⟨g, h1, h2, h3, h4, h5⟩ := own_lt h hn
  exact ⟨g, h1, h2, h3, fun j u hu => by rw [Nat.zero_add]; exact h4 j u hu, h5⟩
theorem own_shN {base : Nat} {e : TypeId} {u : Value} {r : List Int} (hL : L ≤ base) (h : w.ownsRow base e 1 u r.length (r.map (Value.int .i64))) (hi : ∀ x ∈ r, InI x) : ∃ A' c', u = .slice A' r.length c' ∧ r.length ≤ c' ∧ c' ≤ 9223372036854775807 ∧ ShN w L w.heap.size A' r.length := by
  obtain ⟨A', c', rfl, h1, h2⟩ := own_slice h
  refine ⟨A', c', rfl, h1, h2, fun hn => ?_⟩
  obtain ⟨g, e1, e2, e3, e4, e5⟩ := own_cells h (by omega) hn
  exact ⟨g, 0, e1, fun j hj => ⟨by omega, e3, e5 _, r[j], e4 j _ (by simp [hj]), hi _ (List.getElem_mem hj)⟩⟩
theorem ShR.at_ {j m c' : Nat} {A' : Option Addr} (h : ShR w L B (some ⟨b, o, none⟩) n) (hj : j < n) (hc : w.cell? ⟨b, o + j, none⟩ = some (.slice A' m c')) : ShN w L B A' m := by
  obtain ⟨b1, o1, e, _, hat⟩ := h (by omega)
  simp at e
  obtain ⟨rfl, rfl⟩ := e
  obtain ⟨A1, m1, c1, e1, _, _, e4⟩ := hat j hj
  rw [hc] at e1
  simp at e1
  obtain ⟨rfl, rfl, rfl⟩ := e1
  exact e4
theorem ShS.at_ {j m c' : Nat} {A' : Option Addr} (h : ShS w L B (some ⟨b, o, none⟩) n) (hj : j < n) (hc : w.cell? ⟨b, o + j * 2 + 1, none⟩ = some (.slice A' m c')) : ShN w L B A' m := by
  obtain ⟨b1, o1, e, _, hat⟩ := h (by omega)
  simp at e
  obtain ⟨rfl, rfl⟩ := e
  obtain ⟨_, A1, m1, c1, e1, _, _, e4⟩ := hat j hj
  rw [hc] at e1
  simp at e1
  obtain ⟨rfl, rfl, rfl⟩ := e1
  exact e4
/-- What a call owns has the shape. -/
theorem OwnI.sh {base : Nat} {ti ts : TypeId} {I : IData} {D1 D2 D3 : Option Addr} {d1 d2 d3 : Nat} (h : OwnI w base ti ts I D1 d1 D2 d2 D3 d3) (hL : L ≤ base) :
    ShP w L w.heap.size D1 I.items.length ∧ ShR w L w.heap.size D2 I.cost.length ∧ ShS w L w.heap.size D3 I.sets.length := by
  refine ⟨fun hn => ?_, fun hn => ?_, fun hn => ?_⟩
  · obtain ⟨g, e1, e2, e3, e4, e5⟩ := own_cells h.items (by omega) hn
    refine ⟨g, 0, e1, fun j hj => ?_⟩
    have hp : I.items[j]? = some (I.items[j]) := List.getElem?_eq_getElem hj
    obtain ⟨a1, a2⟩ := flat2_get (I.items.map pairI) j (pairI I.items[j]) (by rw [List.getElem?_map, hp]; rfl)
    have hin := h.in_.items _ (List.getElem_mem hj)
    exact ⟨⟨by omega, e3, e5 _, _, e4 _ _ a1, hin.1⟩, ⟨by omega, e3, e5 _, _, e4 _ _ a2, hin.2⟩⟩
  · obtain ⟨us, hl, h2, h3⟩ := h.cost
    obtain ⟨g, e1, e2, e3, e4, e5⟩ := own_cells h2 (by omega) hn
    refine ⟨g, 0, e1, e3, fun j hj => ?_⟩
    have hu : us[j]? = some (us[j]'(by omega)) := List.getElem?_eq_getElem (by omega)
    have hr : I.cost[j]? = some (I.cost[j]) := List.getElem?_eq_getElem hj
    obtain ⟨A', c', eu, k1, k2, k3⟩ := own_shN hL (h3 j _ _ hr hu) (h.in_.cost _ (List.getElem_mem hj))
    have := e4 j _ hu
    rw [eu] at this
    exact ⟨A', _, c', this, k1, k2, k3⟩
  · obtain ⟨us, hl, h2, h3⟩ := h.sets
    obtain ⟨g, e1, e2, e3, e4, e5⟩ := own_cells h2 (by omega) hn
    refine ⟨g, 0, e1, e3, fun j hj => ?_⟩
    have hu : us[j]? = some (us[j]'(by omega)) := List.getElem?_eq_getElem (by omega)
    have hr : I.sets[j]? = some (I.sets[j]) := List.getElem?_eq_getElem hj
    obtain ⟨a1, a2⟩ := flat2_get us j _ hu
    have hin := h.in_.sets _ (List.getElem_mem hj)
    obtain ⟨f1, f2⟩ := h3 j _ _ hr hu
    obtain ⟨A', c', eu, k1, k2, k3⟩ := own_shN hL f2 hin.2
    have t1 := e4 _ _ a1
    have t2 := e4 _ _ a2
    rw [f1] at t1
    rw [eu] at t2
    exact ⟨⟨by omega, e3, e5 _, _, t1, hin.1⟩, A', _, c', t2, k1, k2, k3⟩
end
/-- The copy in its variable g, beside all that stood before (w1). -/
structure ShC (w w1 : World) (g : Nat) (k cp sz : Int) (A1 A2 A3 : Option Addr) (n1 n2 n3 c1 c2 c3 : Nat) : Prop where
  box : Blk w g 33 #[.int .i64 k, .int .i64 cp, .slice A1 n1 c1, .slice A2 n2 c2, .int .i64 sz, .slice A3 n3 c3]
  p : ShP w w1.heap.size g A1 n1
  r : ShR w w1.heap.size g A2 n2
  s : ShS w w1.heap.size g A3 n3
  bl : Below w1.heap.size w1 w
section
variable {w w' w1 : World} {g b o : Nat} {k cp sz z : Int} {A1 A2 A3 : Option Addr} {n1 n2 n3 c1 c2 c3 : Nat}
theorem ShC.put (h : ShC w w1 g k cp sz A1 A2 A3 n1 n2 n3 c1 c2 c3) (hp : IntC w w1.heap.size g b o) (hz : InI z) : ShC (w.setCell ⟨b, o, none⟩ (.int .i64 z)) w1 g k cp sz A1 A2 A3 n1 n2 n3 c1 c2 c3 :=
  ⟨h.box.far (p := ⟨b, o, none⟩) (fun e => by have := hp.2.1; simp at e; omega) _, h.p.put hp hz, h.r.put hp hz, h.s.put hp hz, bl_set h.bl (p := ⟨b, o, none⟩) hp.1 _⟩
theorem ShC.below (h : ShC w w1 g k cp sz A1 A2 A3 n1 n2 n3 c1 c2 c3) (hb : Below w.heap.size w w') : ShC w' w1 g k cp sz A1 A2 A3 n1 n2 n3 c1 c2 c3 := by
  have k := Alike2.of_below (B := g) hb (Nat.le_of_lt h.box.lt)
  exact ⟨h.box.below hb, h.p.keep k, h.r.keep k, h.s.keep k, bl_step h.bl hb⟩
theorem ShC.drew (h : ShC w w1 g k cp sz A1 A2 A3 n1 n2 n3 c1 c2 c3) : ShC w.drew w1 g k cp sz A1 A2 A3 n1 n2 n3 c1 c2 c3 := h.below (bl_drew (Below.refl _ _))
end
end Go.Proofs.YteddbdmddgmicaaDoor
