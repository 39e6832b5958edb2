/- Rows of tokens in memory; append of one of them; a scan that is under way. -/
import Derived.Test.YtklomjpnmmaogaaDoorAPP
import Derived.Test.YtklomjpnmmaogaaDoorLA
import Derived.Lib.OthersKept
namespace Go.Proofs.YtklomjpnmmaogaaDoor
open Go Go.RowKit
set_option linter.unusedVariables false
set_option linter.unusedSimpArgs false
set_option maxRecDepth 100000

theorem reads5 {w : World} {g : Nat} {t : TypeId} {a b c d e : Value} (h : Blk w g t #[a, b, c, d, e]) : Reads w (g + 1) 5 (some ⟨g, 0, none⟩) 1 [a, b, c, d, e] :=
  ⟨rfl, fun _ => ⟨g, 0, rfl, by omega, fun j u hu => by rw [Nat.zero_add, h.cell j, ← hu]; exact List.getElem?_toArray⟩⟩
theorem own_sz {w : World} {base : Nat} {e : TypeId} {s n : Nat} {v : Value} {xs : List Value} (h : w.ownsRow base e s v n xs) (k : Nat) (hk : v.ownBlock = some k) : k < w.heap.size := by
  rcases h.2 with ⟨rfl, _⟩ | ⟨g, cap, cur, rfl, _, hh, _⟩
  · simp [Value.ownBlock] at hk
  · have e3 : g = k := by simpa [Value.ownBlock] using hk
    have := (Array.getElem?_eq_some_iff.1 hh).1
    omega
/-- A row of cells is no iterator. -/
theorem own_iter_apart {w : World} {base : Nat} {e : TypeId} {size n : Nat} {v : Value} {xs : List Value} (h : w.ownsRow base e size v n xs) {k : Nat} {s : ByteArray} {p : Nat} (hk : w.heap[k]? = some (.stringIter s p)) : v.ownBlock ≠ some k := by
  intro hv
  rcases h.2 with ⟨rfl, _⟩ | ⟨g, cap, cur, rfl, _, hh, _⟩
  · simp [Value.ownBlock] at hv
  · have e3 : g = k := by simpa [Value.ownBlock] using hv
    subst e3
    rw [hk] at hh
    cases hh
theorem own_iterAt {w : World} {base : Nat} {e : TypeId} {size n : Nat} {v : Value} {xs : List Value} (h : w.ownsRow base e size v n xs) {k : Nat} {s : ByteArray} {p : Nat} (hk : w.heap[k]? = some (.stringIter s p)) (p' : Nat) : (w.iterAt k s p').ownsRow base e size v n xs := by
  refine ⟨h.1, ?_⟩
  have h0 := h
  rcases h.2 with h2 | ⟨g, cap, cur, rfl, hb, hh, rest⟩
  · exact .inl h2
  · refine .inr ⟨g, cap, cur, rfl, hb, ?_, rest⟩
    have hkg : g ≠ k := fun e1 => by rw [e1, hk] at hh; cases hh
    rw [Lib.iterAt_other w k g s p' hkg]
    exact hh
theorem Blk.iterAt {w : World} {g : Nat} {t : TypeId} {cs : Array Value} (h : Blk w g t cs) {k : Nat} {s : ByteArray} {p : Nat} (hk : w.heap[k]? = some (.stringIter s p)) (p' : Nat) : Blk (w.iterAt k s p') g t cs := by
  have hkg : g ≠ k := fun e1 => by have := h.out; rw [e1, hk] at this; cases this
  exact ⟨(Lib.iterAt_other w k g s p' hkg).trans h.out⟩
/-- Tokens, cell by cell. -/
def tokC (t : Tok) : List Value := [.int .i64 t.kind, .string ⟨t.text.toArray⟩, .int .i64 t.num, .int .i64 t.line, .int .i64 t.col]
def toksC : List Tok → List Value
  | [] => []
  | t :: r => tokC t ++ toksC r
theorem toksC_length : ∀ l : List Tok, (toksC l).length = l.length * 5
  | [] => rfl
  | t :: r => by simp only [toksC, List.length_append, List.length_cons, toksC_length r]; show 5 + _ = _; omega
theorem toksC_app : ∀ (l m : List Tok), toksC (l ++ m) = toksC l ++ toksC m
  | [], m => rfl
  | t :: r, m => by simp only [List.cons_append, toksC, toksC_app r m, List.append_assoc]
theorem toksC_get : ∀ (l : List Tok) (i j : Nat) (t : Tok), l[i]? = some t → j < 5 → (toksC l)[i * 5 + j]? = (tokC t)[j]?
  | [], i, j, t, h, _ => by simp at h
  | u :: r, 0, j, t, h, hj => by
    simp at h
    subst h
    simp only [toksC]
    rw [List.getElem?_append_left (by show 0 * 5 + j < 5; omega)]
    simp
  | u :: r, i + 1, j, t, h, hj => by
    have h1 := toksC_get r i j t (by simpa using h) hj
    simp only [toksC]
    rw [List.getElem?_append_right (by show 5 ≤ _; omega), ← h1]
    congr 1
    show (i + 1) * 5 + j - 5 = _
    omega
theorem toksC_one : ∀ (l : List Tok), ∀ u ∈ toksC l, u.oneCell' = true
  | [], u, h => by simp [toksC] at h
  | t :: r, u, h => by
    simp only [toksC, List.mem_append, tokC, List.mem_cons, List.not_mem_nil, or_false] at h
    rcases h with (rfl | rfl | rfl | rfl | rfl) | h
    iterate 5 rfl
    exact toksC_one r u h
/-- A row of tokens, as a walk reads it. -/
structure RdT (w : World) (B : Nat) (A : Option Addr) (l : List Tok) : Prop where
  out : Reads w B 5 A l.length (toksC l)
theorem RdT.keep {w w' : World} {B : Nat} {A : Option Addr} {l : List Tok} (h : RdT w B A l) (hk : Alike B w w') : RdT w' B A l := ⟨h.out.keep hk⟩
theorem RdT.more {w : World} {B B' : Nat} {A : Option Addr} {l : List Tok} (h : RdT w B A l) (hB : B ≤ B') : RdT w B' A l := ⟨h.out.more hB⟩
theorem RdT.of_own {w : World} {base : Nat} {e : TypeId} {A : Option Addr} {c : Nat} {l : List Tok} (h : w.ownsRow base e 5 (.slice A l.length c) l.length (toksC l)) : RdT w w.heap.size A l := ⟨Reads.of_own h⟩
theorem RdT.get {w : World} {B : Nat} {A : Option Addr} {l : List Tok} (h : RdT w B A l) {i : Nat} {t : Tok} (ht : l[i]? = some t) :
    ∃ b o, A = some ⟨b, o, none⟩ ∧ b < B ∧ w.cell? ⟨b, o + i * 5, none⟩ = some (.int .i64 t.kind) ∧ w.cell? ⟨b, o + (i * 5 + 1), none⟩ = some (.string ⟨t.text.toArray⟩) ∧ w.cell? ⟨b, o + (i * 5 + 2), none⟩ = some (.int .i64 t.num) ∧ w.cell? ⟨b, o + (i * 5 + 3), none⟩ = some (.int .i64 t.line) ∧ w.cell? ⟨b, o + (i * 5 + 4), none⟩ = some (.int .i64 t.col) := by
  obtain ⟨b, o, e, hb, hc⟩ := h.out.at_ (by have := (List.getElem?_eq_some_iff.1 ht).1; omega)
  refine ⟨b, o, e, hb, ?_, ?_, ?_, ?_, ?_⟩
  · exact hc (i * 5) _ (by rw [show i * 5 = i * 5 + 0 by omega, toksC_get l i 0 t ht (by omega)]; rfl)
  · exact hc (i * 5 + 1) _ (by rw [toksC_get l i 1 t ht (by omega)]; rfl)
  · exact hc (i * 5 + 2) _ (by rw [toksC_get l i 2 t ht (by omega)]; rfl)
  · exact hc (i * 5 + 3) _ (by rw [toksC_get l i 3 t ht (by omega)]; rfl)
  · exact hc (i * 5 + 4) _ (by rw [toksC_get l i 4 t ht (by omega)]; rfl)
end Go.Proofs.YtklomjpnmmaogaaDoor
