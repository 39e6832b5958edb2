/- Rows that a call owns: stores, rows that lie apart. -/
import Derived.Test.YtklomjpnmmaogaaDoorIMem
import Derived.Laws.OwnMore
namespace Go.Proofs.YtklomjpnmmaogaaDoor
open Go Go.RowKit
set_option linter.unusedVariables false
set_option linter.unusedSimpArgs false
set_option maxRecDepth 100000

section
variable {w w' : World} {base base' : Nat} {e e' : TypeId} {size size' n n' : Nat} {v v' u : Value} {xs xs' : List Value}
/-- A store elsewhere. -/
theorem own_far (h : w.ownsRow base e size v n xs) {p : Addr} (hp : v.ownBlock ≠ some p.block) (u : Value) : (w.setCell p u).ownsRow base e size v n xs := by
  rcases h with ⟨h1, ⟨hv, hn⟩ | ⟨g, cap, cur, hv, hb, hg, hr⟩⟩
  · exact ⟨h1, .inl ⟨hv, hn⟩⟩
  · refine ⟨h1, .inr ⟨g, cap, cur, hv, hb, (Below.heap_setCell w p u g (fun e => hp ?_)).trans hg, hr⟩⟩
    subst hv
    rw [← e]; rfl
/-- Rows of two types lie apart. -/
theorem own_apart (h : w.ownsRow base e size v n xs) (h' : w.ownsRow base' e' size' v' n' xs') (hne : e ≠ e') {g : Nat} (hg : v.ownBlock = some g) : v'.ownBlock ≠ some g := by
  rcases h.2 with ⟨rfl, _⟩ | ⟨g1, cap, cur, rfl, _, hh, _⟩
  · simp [Value.ownBlock] at hg
  · have e1 : g1 = g := by simpa [Value.ownBlock] using hg
    subst e1
    rcases h'.2 with ⟨rfl, _⟩ | ⟨g2, cap2, cur2, rfl, _, hh2, _⟩
    · simp [Value.ownBlock]
    · intro e2
      have e3 : g2 = g1 := by simpa [Value.ownBlock] using e2
      subst e3
      rw [hh] at hh2
      injection hh2 with hh2
      injection hh2 with _ ht
      exact hne ht
theorem own_blk_apart (h : w.ownsRow base e size v n xs) {g : Nat} {t : TypeId} {cs : Array Value} (hb : Blk w g t cs) (hne : e ≠ t) : v.ownBlock ≠ some g := by
  rcases h.2 with ⟨rfl, _⟩ | ⟨g1, cap, cur, rfl, _, hh, _⟩
  · simp [Value.ownBlock]
  · intro e2
    have e3 : g1 = g := by simpa [Value.ownBlock] using e2
    subst e3
    rw [hb.out] at hh
    injection hh with hh
    injection hh with _ ht
    exact hne ht.symm
theorem own_more (h : w.ownsRow base e size v n xs) (hb : base' ≤ base) : w.ownsRow base' e size v n xs := by
  rcases h with ⟨h1, h2 | ⟨g, cap, cur, hv, hg, hr⟩⟩
  · exact ⟨h1, .inl h2⟩
  · exact ⟨h1, .inr ⟨g, cap, cur, hv, by omega, hr⟩⟩
/-- A store into the row. -/
theorem own_store {g cap : Nat} (h : w.ownsRow base e size (.slice (some ⟨g, 0, none⟩) n cap) n xs) (j : Nat) (hj : j < n * size) (u : Value) : (w.setCell ⟨g, j, none⟩ u).ownsRow base e size (.slice (some ⟨g, 0, none⟩) n cap) n (xs.set j u) := (h.stored j u).1
theorem own_lt {A : Option Addr} {c : Nat} (h : w.ownsRow base e size (.slice A n c) n xs) (h0 : 0 < n) : ∃ g, A = some ⟨g, 0, none⟩ ∧ base ≤ g ∧ g < w.heap.size ∧ (∀ j u, xs[j]? = some u → w.cell? ⟨g, j, none⟩ = some u) ∧ ∀ j, w.frozen? ⟨g, j, none⟩ = false := by
  obtain ⟨g, cap, hv, hb, hlt⟩ := h.form h0
  have hA : A = some ⟨g, 0, none⟩ := by injection hv
  subst hA
  refine ⟨g, rfl, hb, hlt, fun j u hu => ?_, fun j => h.frozenAt j⟩
  have := h.cells (g := g) rfl j u hu
  rw [show (⟨g, j, none⟩ : Addr) = (⟨g, 0, none⟩ : Addr).add j by unfold Addr.add; split <;> simp_all]
  exact this
theorem own_hd (h : w.ownsRow base e 1 u n xs) {r : List Int} (hn : n = r.length) (hx : xs = r.map (Value.int .i64)) : HdAt w w.heap.size u r := by
  subst hn
  subst hx
  obtain ⟨A, c, rfl, h1, h2⟩ := own_slice h
  exact ⟨A, c, rfl, h1, h2, Reads.of_own h⟩
end
end Go.Proofs.YtklomjpnmmaogaaDoor
