/- A reader in memory; what a call leaves as it was. -/
import Derived.Test.YtklomjpnmmaogaaDoorPA
import Derived.Test.YtklomjpnmmaogaaDoorLM
import Derived.Recover
namespace Go.Proofs.YtklomjpnmmaogaaDoor
open Go Go.RowKit
set_option linter.unusedVariables false
set_option linter.unusedSimpArgs false
set_option maxRecDepth 100000

/-- All but one block is as it was, and there may be more blocks. -/
structure Gr (w : World) (g : Nat) (W : World) : Prop where
  out : w.grownBy W (some g)
section
variable {w W W2 : World} {g b B n sz : Nat} {t e : TypeId} {cs : Array Value} {v : Value} {xs : List Value}
theorem Gr.refl (w : World) (g : Nat) : Gr w g w := ⟨World.grownBy.refl w _⟩
theorem Gr.hs (h : Gr w g W) : w.heap.size ≤ W.heap.size := h.out.size
theorem Gr.alloc (h : Gr w g W) (o : Obj) : Gr w g (W.alloc o) := ⟨World.grownBy.trans h.out (World.grownBy_alloc W o _)⟩
theorem Gr.drew (h : Gr w g W) : Gr w g W.drew := ⟨⟨h.out.os, h.out.tape, h.out.output, h.out.size, h.out.block⟩⟩
theorem Gr.drewN (h : Gr w g W) (n : Nat) : Gr w g (W.drewN n) := ⟨⟨h.out.os, h.out.tape, h.out.output, h.out.size, h.out.block⟩⟩
theorem Gr.step (h : Gr w g W) (k : Gr W g W2) : Gr w g W2 := ⟨World.grownBy.trans h.out k.out⟩
theorem Gr.below (h : Gr w g W) (k : Below W.heap.size W W2) : Gr w g W2 :=
  ⟨World.grownBy.trans h.out ⟨k.os, k.tape, k.output, k.size, fun i hi _ => k.block i hi⟩⟩
theorem Gr.of_below (k : Below w.heap.size w W) : Gr w g W := (Gr.refl w g).below k
theorem Gr.grown {row : Option Nat} (h : Gr w g W) (hg : W.grownBy W2 row) (hr : ∀ k, row = some k → w.heap.size ≤ k) : Gr w g W2 :=
  ⟨⟨hg.os.trans h.out.os, hg.tape.trans h.out.tape, hg.output.trans h.out.output, Nat.le_trans h.out.size hg.size, fun i hi hne => (hg.block i (Nat.lt_of_lt_of_le hi h.out.size) (fun e => by have := hr i e.symm; omega)).trans (h.out.block i hi hne)⟩⟩
theorem Gr.set (h : Gr w g W) {p : Addr} (hp : p.block = g ∨ w.heap.size ≤ p.block) (u : Value) : Gr w g (W.setCell p u) := by
  refine ⟨⟨h.out.os, h.out.tape, h.out.output, ?_, fun i hi hne => ?_⟩⟩
  · have := h.hs
    simpa [World.setCell] using this
  · rw [Below.heap_setCell W p u i (fun e => hp.elim (fun hp => hne (by rw [e, hp])) (fun hp => by omega))]
    exact h.out.block i hi hne
theorem Blk.gr (h : Blk w b t cs) (k : Gr w g W) (hne : b ≠ g) : Blk W b t cs := h.grown k.out (by simpa using hne)
theorem own_gr {base : Nat} (h : w.ownsRow base e sz v n xs) (k : Gr w g W) (hne : v.ownBlock ≠ some g) : W.ownsRow base e sz v n xs := h.kept k.out (.inr hne)
theorem Gr.alike (k : Gr w g W) (hg : g ≤ w.heap.size) : Alike g w W := fun p hp => k.out.cell_far p (by omega) (by simp; omega)
theorem Gr.to_below (k : Gr w g W) (hB : B ≤ g) (hg : g ≤ w.heap.size) : Below B w W :=
  ⟨k.out.os, k.out.tape, k.out.output, k.out.size, fun i hi => k.out.block i (by omega) (by simp; omega)⟩
theorem Gr.bl {w0 : World} (h : Below w0.heap.size w0 w) (k : Gr w g W) (hB : w0.heap.size ≤ g) : Below w0.heap.size w0 W := bl_grown h k.out (fun j hj => by injection hj with hj; omega)
end
/-- A reader: its tokens, and where it stands. -/
structure Rd (w : World) (g : Nat) (A : Option Addr) (c : Nat) (L : List Tok) (at_ : Nat) : Prop where
  box : Blk w g 64 #[.slice A L.length c, .int .i64 at_]
  toks : RdT w g A L
  cap : L.length ≤ c ∧ c ≤ 9223372036854775807
  ends : EndsL (L.drop at_)
section
variable {w W W2 : World} {g c at_ : Nat} {A : Option Addr} {L : List Tok}
theorem Rd.lt (h : Rd w g A c L at_) : at_ < L.length := h.ends.drop_head.1
theorem Rd.below (h : Rd w g A c L at_) (hb : Below w.heap.size w W) : Rd W g A c L at_ :=
  ⟨h.box.below hb, h.toks.keep (Alike.of_below hb (by have := h.box.lt; omega)), h.cap, h.ends⟩
theorem Rd.far (h : Rd w g A c L at_) {p : Addr} (hp : g < p.block) (u : Value) : Rd (w.setCell p u) g A c L at_ :=
  ⟨h.box.far (by omega) u, h.toks.keep (fun q hq => (Gr.set (Gr.refl w p.block) (.inl rfl) u).out.cell_far q (by have := h.box.lt; omega) (by simp; omega)), h.cap, h.ends⟩
end
/-- A token of a row, as a walk reads it. -/
theorem RdT.five {w : World} {B : Nat} {A : Option Addr} {l : List Tok} (h : RdT w B A l) {i : Nat} {t : Tok} (ht : l[i]? = some t) :
    ∃ b o, A = some ⟨b, o, none⟩ ∧ b < B ∧ w.cell? ⟨b, o + i * 5, none⟩ = some (.int .i64 t.kind) ∧ w.cell? ⟨b, o + i * 5 + 1, none⟩ = some (.string ⟨t.text.toArray⟩) ∧ w.cell? ⟨b, o + i * 5 + 2, none⟩ = some (.int .i64 t.num) ∧ w.cell? ⟨b, o + i * 5 + 3, none⟩ = some (.int .i64 t.line) ∧ w.cell? ⟨b, o + i * 5 + 4, none⟩ = some (.int .i64 t.col) := by
  obtain ⟨b, o, e, hb, h0, h1, h2, h3, h4⟩ := h.get ht
  exact ⟨b, o, e, hb, h0, by rw [Nat.add_assoc]; exact h1, by rw [Nat.add_assoc]; exact h2, by rw [Nat.add_assoc]; exact h3, by rw [Nat.add_assoc]; exact h4⟩
end Go.Proofs.YtklomjpnmmaogaaDoor
