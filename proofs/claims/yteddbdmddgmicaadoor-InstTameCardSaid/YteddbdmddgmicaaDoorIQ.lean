/- How the two instances of insts grow: plain laws of memory. -/
import Derived.Test.YteddbdmddgmicaaDoorIP
namespace Go.Proofs.YteddbdmddgmicaaDoor
open Go Go.RowKit
set_option linter.unusedVariables false
set_option linter.unusedSimpArgs false
set_option maxRecDepth 100000

section
variable {w w' : World} {base : Nat} {e e0 tr te ts ti : TypeId} {size s0 n n0 : Nat} {v v0 : Value} {xs xs0 : List Value}
/-- Another row grew. -/
theorem own_oth (h : w.ownsRow base e size v n xs) (h0 : w.ownsRow base e0 s0 v0 n0 xs0) (hne : e0 ≠ e) (hg : w.grownBy w' v0.ownBlock) : w'.ownsRow base e size v n xs := by
  refine h.kept hg ?_
  rcases hb : v0.ownBlock with _ | g
  · rcases hv : v.ownBlock with _ | k
    · exact .inl rfl
    · exact .inr (by simp)
  · exact .inr (own_apart h0 h hne hb)
theorem own_new (h : w.ownsRow base e size v n xs) {row : Option Nat} (hg : w.grownBy w' row) (hr : ∀ k, row = some k → v.ownBlock ≠ some k) : w'.ownsRow base e size v n xs := by
  refine h.kept hg ?_
  rcases row with _ | k
  · rcases hv : v.ownBlock with _ | k
    · exact .inl rfl
    · exact .inr (by simp)
  · exact .inr (hr k rfl)
theorem OwnP.oth {l : List (Int × Int)} (h : OwnP w base ti v l) (h0 : w.ownsRow base e0 s0 v0 n0 xs0) (h1 : e0 ≠ ti) (hg : w.grownBy w' v0.ownBlock) : OwnP w' base ti v l := own_oth h h0 h1 hg
theorem OwnR.oth {rows : List (List Int)} (h : OwnR w base tr te v rows) (h0 : w.ownsRow base e0 s0 v0 n0 xs0) (h1 : e0 ≠ tr) (h2 : e0 ≠ te) (hg : w.grownBy w' v0.ownBlock) : OwnR w' base tr te v rows := by
  obtain ⟨us, a, b, c⟩ := h
  exact ⟨us, a, own_oth b h0 h1 hg, fun i r u hr hu => own_oth (c i r u hr hu) h0 h2 hg⟩
theorem OwnS.oth {l : List (Int × List Int)} (h : OwnS w base ts te v l) (h0 : w.ownsRow base e0 s0 v0 n0 xs0) (h1 : e0 ≠ ts) (h2 : e0 ≠ te) (hg : w.grownBy w' v0.ownBlock) : OwnS w' base ts te v l := by
  obtain ⟨us, a, b, c⟩ := h
  exact ⟨us, a, own_oth b h0 h1 hg, fun i r u hr hu => ⟨(c i r u hr hu).1, own_oth (c i r u hr hu).2 h0 h2 hg⟩⟩
theorem getElem?_snoc {α : Type} {l : List α} {x y : α} {i : Nat} (h : (l ++ [x])[i]? = some y) : (i < l.length ∧ l[i]? = some y) ∨ (i = l.length ∧ y = x) := by
  rw [List.getElem?_append] at h
  split at h
  · exact .inl ⟨by assumption, h⟩
  · rename_i hh
    right
    have : i - l.length = 0 := by
      have := (List.getElem?_eq_some_iff.1 h).1
      simp at this
      omega
    rw [this] at h
    simp at h
    exact ⟨by omega, h.symm⟩
/-- One row more. -/
theorem OwnR.snoc {rows : List (List Int)} {us : List Value} {v' x : Value} {r : List Int} (hl : us.length = rows.length) (hn : w'.ownsRow base tr 1 v' (rows.length + 1) (us ++ [x])) (hu : ∀ (i : Nat) (r : List Int) (u : Value), rows[i]? = some r → us[i]? = some u → w'.ownsRow base te 1 u r.length (r.map (Value.int .i64)))
    (hx : w'.ownsRow base te 1 x r.length (r.map (Value.int .i64))) : OwnR w' base tr te v' (rows ++ [r]) := by
  refine ⟨us ++ [x], by simp [hl], by simpa using hn, fun i r' u a b => ?_⟩
  rcases getElem?_snoc a with ⟨a1, a2⟩ | ⟨rfl, rfl⟩
  · rcases getElem?_snoc b with ⟨b1, b2⟩ | ⟨rfl, rfl⟩
    · exact hu i r' u a2 b2
    · omega
  · rcases getElem?_snoc b with ⟨b1, b2⟩ | ⟨_, rfl⟩
    · omega
    · exact hx
theorem OwnS.snoc {l : List (Int × List Int)} {us : List (Value × Value)} {v' x : Value} {p : Int × List Int} (hl : us.length = l.length) (hn : w'.ownsRow base ts 2 v' (l.length + 1) (flat2 us ++ [.int .i64 p.1, x])) (hu : ∀ (i : Nat) (p : Int × List Int) (u : Value × Value), l[i]? = some p → us[i]? = some u → u.1 = .int .i64 p.1 ∧ w'.ownsRow base te 1 u.2 p.2.length (p.2.map (Value.int .i64)))
    (hx : w'.ownsRow base te 1 x p.2.length (p.2.map (Value.int .i64))) : OwnS w' base ts te v' (l ++ [p]) := by
  refine ⟨us ++ [(.int .i64 p.1, x)], by simp [hl], by simpa [flat2_app] using hn, fun i r' u a b => ?_⟩
  rcases getElem?_snoc a with ⟨a1, a2⟩ | ⟨rfl, rfl⟩
  · rcases getElem?_snoc b with ⟨b1, b2⟩ | ⟨rfl, rfl⟩
    · exact hu i r' u a2 b2
    · omega
  · rcases getElem?_snoc b with ⟨b1, b2⟩ | ⟨_, rfl⟩
    · omega
    · exact ⟨rfl, hx⟩
end
/-- Two instances as they grow: the program's and the document's. -/
structure InsR (w : World) (base : Nat) (I J : IData) (v1 v2 v3 u1 u2 u3 : Value) : Prop where
  a1 : OwnP w base 52 v1 I.items
  a2 : OwnR w base 53 2 v2 I.cost
  a3 : OwnS w base 56 3 v3 I.sets
  b1 : OwnP w base 60 u1 J.items
  b2 : OwnR w base 53 2 u2 J.cost
  b3 : OwnS w base 62 3 u3 J.sets
  ap : ∀ g, v2.ownBlock = some g → u2.ownBlock ≠ some g
section
variable {w w' : World} {base : Nat} {I J : IData} {v1 v2 v3 u1 u2 u3 : Value}
theorem InsR.below (h : InsR w base I J v1 v2 v3 u1 u2 u3) (hb : Below w.heap.size w w') : InsR w' base I J v1 v2 v3 u1 u2 u3 :=
  ⟨h.a1.below hb, h.a2.below hb, h.a3.below hb, h.b1.below hb, h.b2.below hb, h.b3.below hb, h.ap⟩
theorem InsR.drew (h : InsR w base I J v1 v2 v3 u1 u2 u3) : InsR w.drew base I J v1 v2 v3 u1 u2 u3 := h.below (bl_drew (Below.refl _ _))
theorem InsR.alloc (h : InsR w base I J v1 v2 v3 u1 u2 u3) (o : Obj) : InsR (w.alloc o) base I J v1 v2 v3 u1 u2 u3 := h.below (bl_alloc (Below.refl _ _) o)
theorem InsR.set (h : InsR w base I J v1 v2 v3 u1 u2 u3) {p : Addr} (hp : p.block < base) (x : Value) : InsR (w.setCell p x) base I J v1 v2 v3 u1 u2 u3 :=
  ⟨h.a1.set hp x, h.a2.set hp x, h.a3.set hp x, h.b1.set hp x, h.b2.set hp x, h.b3.set hp x, h.ap⟩
theorem InsR.stepA1 (h : InsR w base I J v1 v2 v3 u1 u2 u3) {v' : Value} (p : Int × Int) (hn : w'.ownsRow base 52 2 v' (I.items.length + 1) (flat2 (I.items.map pairI) ++ [.int .i64 p.1, .int .i64 p.2])) (hg : w.grownBy w' v1.ownBlock) :
    InsR w' base { I with items := I.items ++ [p] } J v' v2 v3 u1 u2 u3 :=
  ⟨by show World.ownsRow _ _ _ _ _ _ _; simpa [flat2_app, pairI] using hn, h.a2.oth h.a1 (by decide) (by decide) hg, h.a3.oth h.a1 (by decide) (by decide) hg, h.b1.oth h.a1 (by decide) hg, h.b2.oth h.a1 (by decide) (by decide) hg, h.b3.oth h.a1 (by decide) (by decide) hg, h.ap⟩
theorem InsR.stepB1 (h : InsR w base I J v1 v2 v3 u1 u2 u3) {u' : Value} (p : Int × Int) (hn : w'.ownsRow base 60 2 u' (J.items.length + 1) (flat2 (J.items.map pairI) ++ [.int .i64 p.1, .int .i64 p.2])) (hg : w.grownBy w' u1.ownBlock) :
    InsR w' base I { J with items := J.items ++ [p] } v1 v2 v3 u' u2 u3 :=
  ⟨h.a1.oth h.b1 (by decide) hg, h.a2.oth h.b1 (by decide) (by decide) hg, h.a3.oth h.b1 (by decide) (by decide) hg, by show World.ownsRow _ _ _ _ _ _ _; simpa [flat2_app, pairI] using hn, h.b2.oth h.b1 (by decide) (by decide) hg, h.b3.oth h.b1 (by decide) (by decide) hg, h.ap⟩
/-- Rows of the same type: one grows, the other stays, for they lie apart. -/
theorem OwnR.far {tr te : TypeId} {v v0 : Value} {rows rows0 : List (List Int)} (h : OwnR w base tr te v rows) (h0 : OwnR w base tr te v0 rows0) (hne : tr ≠ te) (hap : ∀ g, v0.ownBlock = some g → v.ownBlock ≠ some g) (hg : w.grownBy w' v0.ownBlock) : OwnR w' base tr te v rows := by
  obtain ⟨us0, _, b0, _⟩ := h0
  obtain ⟨us, a, b, c⟩ := h
  exact ⟨us, a, own_new b hg (fun k hk => hap k hk), fun i r u hr hu => own_oth (c i r u hr hu) b0 hne hg⟩
theorem InsR.stepA2 (h : InsR w base I J v1 v2 v3 u1 u2 u3) {v' x : Value} {us : List Value} (r : List Int) (hl : us.length = I.cost.length) (hr : w.ownsRow base 53 1 v2 I.cost.length us) (hus : ∀ (i : Nat) (r : List Int) (u : Value), I.cost[i]? = some r → us[i]? = some u → w.ownsRow base 2 1 u r.length (r.map (Value.int .i64)))
    (hx : w.ownsRow base 2 1 x r.length (r.map (Value.int .i64))) (hn : w'.ownsRow base 53 1 v' (I.cost.length + 1) (us ++ [x])) (hg : w.grownBy w' v2.ownBlock) (hat : v'.ownBlock = v2.ownBlock ∨ v'.ownBlock = some w.heap.size) :
    InsR w' base { I with cost := I.cost ++ [r] } J v1 v' v3 u1 u2 u3 := by
  obtain ⟨zs, _, hz, _⟩ := h.b2
  refine ⟨h.a1.oth hr (by decide) hg, OwnR.snoc hl hn (fun i r u a b => own_oth (hus i r u a b) hr (by decide) hg) (own_oth hx hr (by decide) hg), h.a3.oth hr (by decide) (by decide) hg, h.b1.oth hr (by decide) hg, h.b2.far h.a2 (by decide) h.ap hg, h.b3.oth hr (by decide) (by decide) hg, fun g hgv hu => ?_⟩
  rcases hat with e | e
  · exact h.ap g (e ▸ hgv) hu
  · rw [e] at hgv
    injection hgv with hgv
    rcases hz.2 with ⟨rfl, _⟩ | ⟨k, cap, cur, rfl, _, hh, _⟩
    · simp [Value.ownBlock] at hu
    · have e3 : k = g := by simpa [Value.ownBlock] using hu
      have := (Array.getElem?_eq_some_iff.1 hh).1
      omega
theorem InsR.stepB2 (h : InsR w base I J v1 v2 v3 u1 u2 u3) {u' x : Value} {us : List Value} (r : List Int) (hl : us.length = J.cost.length) (hr : w.ownsRow base 53 1 u2 J.cost.length us) (hus : ∀ (i : Nat) (r : List Int) (u : Value), J.cost[i]? = some r → us[i]? = some u → w.ownsRow base 2 1 u r.length (r.map (Value.int .i64)))
    (hx : w.ownsRow base 2 1 x r.length (r.map (Value.int .i64))) (hn : w'.ownsRow base 53 1 u' (J.cost.length + 1) (us ++ [x])) (hg : w.grownBy w' u2.ownBlock) (hat : u'.ownBlock = u2.ownBlock ∨ u'.ownBlock = some w.heap.size) :
    InsR w' base I { J with cost := J.cost ++ [r] } v1 v2 v3 u1 u' u3 := by
  obtain ⟨zs, _, hz, _⟩ := h.a2
  refine ⟨h.a1.oth hr (by decide) hg, h.a2.far h.b2 (by decide) (fun g a b => h.ap g b a) hg, h.a3.oth hr (by decide) (by decide) hg, h.b1.oth hr (by decide) hg, OwnR.snoc hl hn (fun i r u a b => own_oth (hus i r u a b) hr (by decide) hg) (own_oth hx hr (by decide) hg), h.b3.oth hr (by decide) (by decide) hg, fun g hgv hu => ?_⟩
  rcases hat with e | e
  · exact h.ap g hgv (e ▸ hu)
  · rw [e] at hu
    injection hu with hu
    rcases hz.2 with ⟨rfl, _⟩ | ⟨k, cap, cur, rfl, _, hh, _⟩
    · simp [Value.ownBlock] at hgv
    · have e3 : k = g := by simpa [Value.ownBlock] using hgv
      have := (Array.getElem?_eq_some_iff.1 hh).1
      omega
theorem InsR.stepA3 (h : InsR w base I J v1 v2 v3 u1 u2 u3) {v' x : Value} {us : List (Value × Value)} (p : Int × List Int) (hl : us.length = I.sets.length) (hr : w.ownsRow base 56 2 v3 I.sets.length (flat2 us)) (hus : ∀ (i : Nat) (p : Int × List Int) (u : Value × Value), I.sets[i]? = some p → us[i]? = some u → u.1 = .int .i64 p.1 ∧ w.ownsRow base 3 1 u.2 p.2.length (p.2.map (Value.int .i64)))
    (hx : w.ownsRow base 3 1 x p.2.length (p.2.map (Value.int .i64))) (hn : w'.ownsRow base 56 2 v' (I.sets.length + 1) (flat2 us ++ [.int .i64 p.1, x])) (hg : w.grownBy w' v3.ownBlock) :
    InsR w' base { I with sets := I.sets ++ [p] } J v1 v2 v' u1 u2 u3 :=
  ⟨h.a1.oth hr (by decide) hg, h.a2.oth hr (by decide) (by decide) hg, OwnS.snoc hl hn (fun i r u a b => ⟨(hus i r u a b).1, own_oth (hus i r u a b).2 hr (by decide) hg⟩) (own_oth hx hr (by decide) hg), h.b1.oth hr (by decide) hg, h.b2.oth hr (by decide) (by decide) hg, h.b3.oth hr (by decide) (by decide) hg, h.ap⟩
theorem InsR.stepB3 (h : InsR w base I J v1 v2 v3 u1 u2 u3) {u' x : Value} {us : List (Value × Value)} (p : Int × List Int) (hl : us.length = J.sets.length) (hr : w.ownsRow base 62 2 u3 J.sets.length (flat2 us)) (hus : ∀ (i : Nat) (p : Int × List Int) (u : Value × Value), J.sets[i]? = some p → us[i]? = some u → u.1 = .int .i64 p.1 ∧ w.ownsRow base 3 1 u.2 p.2.length (p.2.map (Value.int .i64)))
    (hx : w.ownsRow base 3 1 x p.2.length (p.2.map (Value.int .i64))) (hn : w'.ownsRow base 62 2 u' (J.sets.length + 1) (flat2 us ++ [.int .i64 p.1, x])) (hg : w.grownBy w' u3.ownBlock) :
    InsR w' base I { J with sets := J.sets ++ [p] } v1 v2 v3 u1 u2 u' :=
  ⟨h.a1.oth hr (by decide) hg, h.a2.oth hr (by decide) (by decide) hg, h.a3.oth hr (by decide) (by decide) hg, h.b1.oth hr (by decide) hg, h.b2.oth hr (by decide) (by decide) hg, OwnS.snoc hl hn (fun i r u a b => ⟨(hus i r u a b).1, own_oth (hus i r u a b).2 hr (by decide) hg⟩) (own_oth hx hr (by decide) hg), h.ap⟩
end
end Go.Proofs.YteddbdmddgmicaaDoor
