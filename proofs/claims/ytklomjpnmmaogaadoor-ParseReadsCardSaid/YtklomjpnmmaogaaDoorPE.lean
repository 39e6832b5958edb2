/- The plain parser; the reader in memory, and its small methods. -/
import Derived.Test.YtklomjpnmmaogaaDoorLA
import Derived.Test.YtklomjpnmmaogaaDoorIMem
import Derived.Test.YtklomjpnmmaogaaDoorLM
import Derived.Recover
import Derived.Test.YtklomjpnmmaogaaDoorProg
import Derived.Test.YtklomjpnmmaogaaDoorIS
import Derived.KernelRfl
import Derived.StillTailTactics
import Derived.Deep.RegionHeld3
import Derived.Lib.Hide
import Derived.Outline
import Derived.Test.YtklomjpnmmaogaaDoorIO
namespace Go.Proofs.YtklomjpnmmaogaaDoor
open Go Go.RowKit
set_option linter.unusedVariables false
set_option linter.unusedSimpArgs false
set_option maxRecDepth 100000

/-- What a piece of the reading comes to: a place and an error, or what is read and the tokens that are left. -/
inductive PR (α : Type) where
  | bad (line col : Nat) (e : Int)
  | ok (a : α) (rest : List Tok)
def PR.bind {α β : Type} (x : PR α) (f : α → List Tok → PR β) : PR β := match x with
  | .bad a b e => .bad a b e
  | .ok a r => f a r
theorem PR.bind_bad {α β : Type} {a b : Nat} {e : Int} {f : α → List Tok → PR β} : (PR.bad a b e).bind f = .bad a b e := rfl
theorem PR.bind_ok {α β : Type} {x : α} {r : List Tok} {f : α → List Tok → PR β} : (PR.ok x r).bind f = f x r := rfl
def headT : List Tok → Tok
  | [] => ⟨3, [], 0, 0, 0⟩
  | t :: _ => t
def failP {α : Type} (l : List Tok) (e : Int) : PR α := .bad (headT l).line (headT l).col e
def isP (s : List UInt8) (l : List Tok) : Bool := decide ((headT l).kind = 0) && decide ((headT l).text = s)
def wordP (s : List UInt8) (l : List Tok) : PR Unit := if isP s l = true then .ok () l.tail else failP l 4
def takeP (k : Int) (l : List Tok) : PR Tok := if (headT l).kind = k then .ok (headT l) l.tail else failP l 4
def numP (lo hi : Int) (l : List Tok) : PR Int :=
  if (headT l).kind = 1 then (if (headT l).num < lo ∨ hi < (headT l).num then failP l 22 else .ok (headT l).num l.tail) else failP l 4
def wKnap : List UInt8 := [107, 110, 97, 112, 115, 97, 99, 107]
def wAss : List UInt8 := [97, 115, 115, 105, 103, 110, 109, 101, 110, 116]
def wTsp : List UInt8 := [116, 115, 112]
def wCov : List UInt8 := [99, 111, 118, 101, 114]
def wCap : List UInt8 := [99, 97, 112, 97, 99, 105, 116, 121]
def wItem : List UInt8 := [105, 116, 101, 109]
def wRow : List UInt8 := [114, 111, 119]
def wSet : List UInt8 := [115, 101, 116]
def itemsP : Nat → List (Int × Int) → List Tok → PR (List (Int × Int))
  | 0, acc, l => .ok acc l
  | f + 1, acc, l =>
    if isP wItem l = true then
      (if 4096 ≤ acc.length then failP l 22
       else (numP 0 2147483648 l.tail).bind fun v l1 => (numP 0 2147483648 l1).bind fun x l2 => itemsP f (acc ++ [(v, x)]) l2)
    else .ok acc l
def knapP (l : List Tok) : PR IData :=
  (wordP wCap l).bind fun _ l1 => (numP 0 2147483648 l1).bind fun c l2 => (itemsP l2.length [] l2).bind fun xs l3 => .ok ⟨0, c, xs, [], 0, []⟩ l3
/-- Does a tour's own place hold a number that is none? -/
def diagP (k : Int) (i c : Nat) (l : List Tok) : Bool :=
  decide (k = 2) && (decide (i = c) && (decide ((headT l).kind = 1) && (decide (¬ (headT l).num = 0) && (decide (-2147483648 ≤ (headT l).num) && decide ((headT l).num ≤ 2147483648)))))
def rowP (k : Int) (i : Nat) : Nat → Nat → List Int → List Tok → PR (List Int)
  | 0, _, acc, l => .ok acc l
  | f + 1, c, acc, l =>
    if diagP k i c l = true then failP l 4
    else (numP (-2147483648) 2147483648 l).bind fun v l1 => rowP k i f (c + 1) (acc ++ [v]) l1
def rowsP (k : Int) (n : Nat) : Nat → Nat → List (List Int) → List Tok → PR (List (List Int))
  | 0, _, acc, l => .ok acc l
  | f + 1, i, acc, l =>
    (wordP wRow l).bind fun _ l1 => (rowP k i n 0 [] l1).bind fun r l2 => rowsP k n f (i + 1) (acc ++ [r]) l2
def squareP (k : Int) (l : List Tok) : PR IData :=
  (numP 1 64 l).bind fun n l1 => (rowsP k n.toNat n.toNat 0 [] l1).bind fun rs l2 => .ok ⟨k, 0, [], rs, 0, []⟩ l2
def elemsP (size : Int) : Nat → Int → List Int → List Tok → PR (List Int)
  | 0, _, acc, l => .ok acc l
  | f + 1, last, acc, l =>
    if (headT l).kind = 1 then
      (if (headT l).num ≤ last ∨ size ≤ (headT l).num then failP l 4 else elemsP size f (headT l).num (acc ++ [(headT l).num]) l.tail)
    else .ok acc l
def setsP (size : Int) : Nat → List (Int × List Int) → List Tok → PR (List (Int × List Int))
  | 0, acc, l => .ok acc l
  | f + 1, acc, l =>
    if isP wSet l = true then
      (if 4096 ≤ acc.length then failP l 22
       else (numP 0 2147483648 l.tail).bind fun c l1 => (takeP 2 l1).bind fun _ l2 => (elemsP size l2.length (-1) [] l2).bind fun es l3 => setsP size f (acc ++ [(c, es)]) l3)
    else .ok acc l
def coverP (l : List Tok) : PR IData :=
  (numP 0 4096 l).bind fun n l1 => (setsP n l1.length [] l1).bind fun ss l2 => .ok ⟨3, 0, [], [], n, ss⟩ l2
def bodyP (l : List Tok) : PR IData :=
  if isP wKnap l = true then knapP l.tail
  else if isP wAss l = true then squareP 1 l.tail
  else if isP wTsp l = true then squareP 2 l.tail
  else if isP wCov l = true then coverP l.tail
  else failP l 4
def wholeP (l : List Tok) : PR IData := (bodyP l).bind fun x l1 => if (headT l1).kind = 3 then .ok x l1 else failP l1 4
/-- What a text comes to. -/
inductive PT where
  | bad (line col : Nat) (e : Int)
  | ok (I : IData)
def PR.out : PR IData → PT
  | .bad a b e => .bad a b e
  | .ok I _ => .ok I
def parseT (s : List UInt8) : PT := match lexT s with
  | .err a b e => .bad a b e
  | .ok l => (wholeP l).out

/-- The last token, and it alone, is an end. -/
def EndsL : List Tok → Prop
  | [] => False
  | t :: r => (r = [] ∧ t.kind = 3) ∨ (¬ t.kind = 3 ∧ EndsL r)
theorem EndsL.pos {l : List Tok} (h : EndsL l) : 0 < l.length := by
  cases l with
  | nil => exact h.elim
  | cons t r => simp
theorem EndsL.tail {l : List Tok} (h : EndsL l) (hk : ¬ (headT l).kind = 3) : EndsL l.tail := by
  cases l with
  | nil => exact h.elim
  | cons t r =>
    rcases h with ⟨_, h⟩ | ⟨_, h⟩
    · exact absurd h hk
    · exact h
theorem EndsL.drop_head {L : List Tok} {n : Nat} (h : EndsL (L.drop n)) : n < L.length ∧ ∃ t, L[n]? = some t ∧ headT (L.drop n) = t ∧ (L.drop n).tail = L.drop (n + 1) := by
  have h1 := h.pos
  rw [List.length_drop] at h1
  have h2 : n < L.length := by omega
  refine ⟨h2, L[n], List.getElem?_eq_getElem h2, ?_, ?_⟩
  · rw [List.drop_eq_getElem_cons h2]; rfl
  · rw [List.drop_eq_getElem_cons h2]; rfl
end Go.Proofs.YtklomjpnmmaogaaDoor
namespace Go.Proofs.YtklomjpnmmaogaaDoor
open Go Go.RowKit
set_option linter.unusedVariables false
set_option linter.unusedSimpArgs false
set_option maxRecDepth 100000

/-- All but one block is as it was, and there may be more blocks. -/
structure Gr (w : World) (g : Nat) (W : World) : Prop where
  out : w.grownBy W (some g)
section
variable {w W W2 : World} {g b B n sz : Nat} {t e : TypeId} {cs : Array Value} {v : Value} {xs : List Value}
theorem Gr.refl (w : World) (g : Nat) : Gr w g w := ⟨World.grownBy.refl w _⟩
theorem Gr.hs (h : Gr w g W) : w.heap.size ≤ W.heap.size := h.out.size
theorem Gr.alloc (h : Gr w g W) (o : Obj) : Gr w g (W.alloc o) := ⟨World.grownBy.trans h.out (World.grownBy_alloc W o _)⟩
theorem Gr.drew (h : Gr w g W) : Gr w g W.drew := ⟨⟨h.out.os, h.out.tape, h.out.output, h.out.size, h.out.block⟩⟩
theorem Gr.drewN (h : Gr w g W) (n : Nat) : Gr w g (W.drewN n) := ⟨⟨h.out.os, h.out.tape, h.out.output, h.out.size, h.out.block⟩⟩
theorem Gr.step (h : Gr w g W) (k : Gr W g W2) : Gr w g W2 := ⟨World.grownBy.trans h.out k.out⟩
theorem Gr.below (h : Gr w g W) (k : Below W.heap.size W W2) : Gr w g W2 :=
  ⟨World.grownBy.trans h.out ⟨k.os, k.tape, k.output, k.size, fun i hi _ => k.block i hi⟩⟩
theorem Gr.of_below (k : Below w.heap.size w W) : Gr w g W := (Gr.refl w g).below k
theorem Gr.grown {row : Option Nat} (h : Gr w g W) (hg : W.grownBy W2 row) (hr : ∀ k, row = some k → w.heap.size ≤ k) : Gr w g W2 :=
  ⟨⟨hg.os.trans h.out.os, hg.tape.trans h.out.tape, hg.output.trans h.out.output, Nat.le_trans h.out.size hg.size, fun i hi hne => (hg.block i (Nat.lt_of_lt_of_le hi h.out.size) (fun e => by have := hr i e.symm; omega)).trans (h.out.block i hi hne)⟩⟩
theorem Gr.set (h : Gr w g W) {p : Addr} (hp : p.block = g ∨ w.heap.size ≤ p.block) (u : Value) : Gr w g (W.setCell p u) := by
  refine ⟨⟨h.out.os, h.out.tape, h.out.output, ?_, fun i hi hne => ?_⟩⟩
  · have := h.hs
    simpa [World.setCell] using this
  · rw [Below.heap_setCell W p u i (fun e => hp.elim (fun hp => hne (by rw [e, hp])) (fun hp => by omega))]
    exact h.out.block i hi hne
theorem Blk.gr (h : Blk w b t cs) (k : Gr w g W) (hne : b ≠ g) : Blk W b t cs := h.grown k.out (by simpa using hne)
theorem own_gr {base : Nat} (h : w.ownsRow base e sz v n xs) (k : Gr w g W) (hne : v.ownBlock ≠ some g) : W.ownsRow base e sz v n xs := h.kept k.out (.inr hne)
theorem Gr.alike (k : Gr w g W) (hg : g ≤ w.heap.size) : Alike g w W := fun p hp => k.out.cell_far p (by omega) (by simp; omega)
theorem Gr.to_below (k : Gr w g W) (hB : B ≤ g) (hg : g ≤ w.heap.size) : Below B w W :=
  ⟨k.out.os, k.out.tape, k.out.output, k.out.size, fun i hi => k.out.block i (by omega) (by simp; omega)⟩
theorem Gr.bl {w0 : World} (h : Below w0.heap.size w0 w) (k : Gr w g W) (hB : w0.heap.size ≤ g) : Below w0.heap.size w0 W := bl_grown h k.out (fun j hj => by injection hj with hj; omega)
end
/-- A reader: its tokens, and where it stands. -/
structure Rd (w : World) (g : Nat) (A : Option Addr) (c : Nat) (L : List Tok) (at_ : Nat) : Prop where
  box : Blk w g 64 #[.slice A L.length c, .int .i64 at_]
  toks : RdT w g A L
  cap : L.length ≤ c ∧ c ≤ 9223372036854775807
  ends : EndsL (L.drop at_)
section
variable {w W W2 : World} {g c at_ : Nat} {A : Option Addr} {L : List Tok}
theorem Rd.lt (h : Rd w g A c L at_) : at_ < L.length := h.ends.drop_head.1
theorem Rd.below (h : Rd w g A c L at_) (hb : Below w.heap.size w W) : Rd W g A c L at_ :=
  ⟨h.box.below hb, h.toks.keep (Alike.of_below hb (by have := h.box.lt; omega)), h.cap, h.ends⟩
theorem Rd.far (h : Rd w g A c L at_) {p : Addr} (hp : g < p.block) (u : Value) : Rd (w.setCell p u) g A c L at_ :=
  ⟨h.box.far (by omega) u, h.toks.keep (fun q hq => (Gr.set (Gr.refl w p.block) (.inl rfl) u).out.cell_far q (by have := h.box.lt; omega) (by simp; omega)), h.cap, h.ends⟩
end
/-- A token of a row, as a walk reads it. -/
theorem RdT.five {w : World} {B : Nat} {A : Option Addr} {l : List Tok} (h : RdT w B A l) {i : Nat} {t : Tok} (ht : l[i]? = some t) :
    ∃ b o, A = some ⟨b, o, none⟩ ∧ b < B ∧ w.cell? ⟨b, o + i * 5, none⟩ = some (.int .i64 t.kind) ∧ w.cell? ⟨b, o + i * 5 + 1, none⟩ = some (.string ⟨t.text.toArray⟩) ∧ w.cell? ⟨b, o + i * 5 + 2, none⟩ = some (.int .i64 t.num) ∧ w.cell? ⟨b, o + i * 5 + 3, none⟩ = some (.int .i64 t.line) ∧ w.cell? ⟨b, o + i * 5 + 4, none⟩ = some (.int .i64 t.col) := by
  obtain ⟨b, o, e, hb, h0, h1, h2, h3, h4⟩ := h.get ht
  exact ⟨b, o, e, hb, h0, by rw [Nat.add_assoc]; exact h1, by rw [Nat.add_assoc]; exact h2, by rw [Nat.add_assoc]; exact h3, by rw [Nat.add_assoc]; exact h4⟩
end Go.Proofs.YtklomjpnmmaogaaDoor
namespace Go.Proofs.YtklomjpnmmaogaaDoor
open Go Go.RowKit
set_option linter.unusedVariables false
set_option linter.unusedSimpArgs false
set_option maxRecDepth 100000

/-- A fault, as it is panicked. -/
def pan (a b : Nat) (e : Int) : Ending := .panicked [{ v := .iface 118 (.agg #[.int .i64 a, .int .i64 b, .int .i64 e]), recovered := false }]
section
variable {w : World} {g c at_ : Nat} {A : Option Addr} {L : List Tok}
set_option maxHeartbeats 1600000 in
theorem ahead_any (h : Rd w g A c L at_) : Calls Tryd.prog 81 #[.pointer (some ⟨g, 0, none⟩)] w fun e w' => e = .returned (.agg #[.int .i64 (headT (L.drop at_)).kind, .string ⟨(headT (L.drop at_)).text.toArray⟩, .int .i64 (headT (L.drop at_)).num, .int .i64 (headT (L.drop at_)).line, .int .i64 (headT (L.drop at_)).col]) ∧ Below w.heap.size w w' := by
  obtain ⟨hlt, t, ht, hh, _⟩ := h.ends.drop_head
  rw [hh]
  have i0 : (0 : Int) ≤ at_ := by omega
  have i1 : (at_ : Int) < L.length := by omega
  have h2 := h.below (bl_alloc (Below.refl w.heap.size w) (.cells #[.int .i64 0, .string ⟨#[]⟩, .int .i64 0, .int .i64 0, .int .i64 0] 116))
  have hc := h.cap
  obtain ⟨b, o, rfl, hb, x0, x1, x2, x3, x4⟩ := h2.toks.five ht
  have NB : Blk (w.alloc (.cells #[.int .i64 0, .string ⟨#[]⟩, .int .i64 0, .int .i64 0, .int .i64 0] 116)) w.heap.size 116 #[.int .i64 0, .string ⟨#[]⟩, .int .i64 0, .int .i64 0, .int .i64 0] := Blk.new _ _ _
  have B := h2.box
  have gl := h.box.lt
  clear h h2 ht hh
  go_enter Tryd.func81, Tryd.ntmps81
  go_wp2_with fail
  have bl := bl_alloc (Below.refl w.heap.size w) (.cells #[.int .i64 0, .string ⟨#[]⟩, .int .i64 0, .int .i64 0, .int .i64 0] 116)
  generalize w.alloc (.cells #[.int .i64 0, .string ⟨#[]⟩, .int .i64 0, .int .i64 0, .int .i64 0] 116) = V at x0 x1 x2 x3 x4 NB B bl ⊢
  have r_z : g < V.heap.size := B.lt
  have r_c0 : V.cell? ⟨g, 0, none⟩ = some (.slice (some ⟨b, o, none⟩) L.length c) := (B.cell 0).trans rfl
  have r_f0 := B.frozen 0
  have r_c1 : V.cell? ⟨g, 1, none⟩ = some (.int .i64 at_) := (B.cell 1).trans rfl
  have r_f1 := B.frozen 1
  have n_z : w.heap.size < V.heap.size := NB.lt
  have n_c0 : V.cell? ⟨w.heap.size, 0, none⟩ = some (.int .i64 0) := (NB.cell 0).trans rfl
  have n_f0 := NB.frozen 0
  have n_c1 : V.cell? ⟨w.heap.size, 1, none⟩ = some (.string ⟨#[]⟩) := (NB.cell 1).trans rfl
  have n_f1 := NB.frozen 1
  have n_c2 : V.cell? ⟨w.heap.size, 2, none⟩ = some (.int .i64 0) := (NB.cell 2).trans rfl
  have n_f2 := NB.frozen 2
  have n_c3 : V.cell? ⟨w.heap.size, 3, none⟩ = some (.int .i64 0) := (NB.cell 3).trans rfl
  have n_f3 := NB.frozen 3
  have n_c4 : V.cell? ⟨w.heap.size, 4, none⟩ = some (.int .i64 0) := (NB.cell 4).trans rfl
  have n_f4 := NB.frozen 4
  clear B
  refine wp_region_still_tail 8 (by kernel_rfl) (by kernel_rfl) ?_
  simp only [List.take_succ_cons, List.take_zero, List.drop_succ_cons, List.drop_zero]
  change wpStill _ _ (World.drew _) _ _ _
  repeat still_step
  refine wpStill_nil ?_
  change wpList _ _ _ _ _ (World.drew _)
  go_wp2
  refine bodyPost_ret (v := (.agg #[.int .i64 (t).kind, .string ⟨(t).text.toArray⟩, .int .i64 (t).num, .int .i64 (t).line, .int .i64 (t).col])) (by simp [results, Tryd.results81, go_sem, r_z, n_z, n_c0, n_c1, n_c2, n_c3, n_c4, n_f0, n_f1, n_f2, n_f3, n_f4]) rfl ⟨rfl, ?_⟩
  (repeat (first | exact Below.refl _ _ | with_reducible assumption | refine bl_alloc ?_ _ | refine bl_set ?_ (by simp <;> omega) _ | refine bl_drew ?_ | refine bl_drewN ?_ _ | refine bl_step ?_ (by assumption)))
end
end Go.Proofs.YtklomjpnmmaogaaDoor
namespace Go.Proofs.YtklomjpnmmaogaaDoor
open Go Go.RowKit
set_option linter.unusedVariables false
set_option linter.unusedSimpArgs false
set_option maxRecDepth 100000

/-- What a method of a reader comes to: nothing but the reader changes; the text fails, or v is read and the reader stands behind it. -/
def Rp {α : Type} (w : World) (g : Nat) (A : Option Addr) (c : Nat) (L : List Tok) (p : PR α) (V : α → Ending → World → Prop) (e : Ending) (w' : World) : Prop :=
  Gr w g w' ∧ ((∃ a b er, p = .bad a b er ∧ e = pan a b er) ∨ (∃ v n, p = .ok v (L.drop n) ∧ V v e w' ∧ Rd w' g A c L n))
section
variable {w : World} {g c at_ : Nat} {A : Option Addr} {L : List Tok}
theorem Rd.step (h : Rd w g A c L at_) (hk : ¬ (headT (L.drop at_)).kind = 3) : L.drop (at_ + 1) = (L.drop at_).tail ∧ Rd (w.setCell ⟨g, 1, none⟩ (.int .i64 ((at_ : Int) + 1))) g A c L (at_ + 1) := by
  obtain ⟨hlt, t, ht, hh, htl⟩ := h.ends.drop_head
  refine ⟨htl.symm, h.box.put 1 _ (by simp), h.toks.keep (fun q hq => World.cell?_setCell_other w _ q _ (fun e => by subst e; simp at hq)), h.cap, ?_⟩
  rw [← htl]
  exact h.ends.tail hk
theorem failP_to {α β : Type} {l : List Tok} {e : Int} {a b : Nat} {er : Int} (h : (failP l e : PR α) = .bad a b er) : (failP l e : PR β) = .bad a b er := by
  unfold failP at h ⊢
  injection h with a1 a2 a3
  rw [a1, a2, a3]
theorem Rd.gl (h : Rd w g A c L at_) : g < w.heap.size := h.box.lt
theorem fail_any (h : Rd w g A c L at_) (er : Int) : Calls Tryd.prog 80 #[.pointer (some ⟨g, 0, none⟩), .int .i64 er] w fun e w' => e = pan (headT (L.drop at_)).line (headT (L.drop at_)).col er ∧ Below w.heap.size w w' := by
  have HA := Lib.hid (ahead_any h)
  generalize headT (L.drop at_) = t at HA ⊢
  clear h
  have hf : ∀ w, (Instr.field 116 (.agg #[.int .i64 (t).kind, .string ⟨(t).text.toArray⟩, .int .i64 (t).num, .int .i64 (t).line, .int .i64 (t).col]) 3).run Tryd.prog w = .ok (.agg #[.int .i64 t.line, .int .i64 t.col]) w := fun _ => by kernel_rfl
  go_enter Tryd.func80, Tryd.ntmps80
  go_wp2_with fail
  refine HA.out.mono ?_; rintro e V ⟨rfl, hb⟩
  go_wp2_with fail
  exact ⟨rfl, rfl, hb⟩
theorem ris_any (h : Rd w g A c L at_) (s : List UInt8) : Calls Tryd.prog 76 #[.pointer (some ⟨g, 0, none⟩), .string ⟨s.toArray⟩] w fun e w' => e = .returned (.bool (isP s (L.drop at_))) ∧ Below w.heap.size w w' := by
  have HA := Lib.hid (ahead_any h)
  unfold isP
  generalize headT (L.drop at_) = t at HA ⊢
  clear h
  by_cases hk : t.kind = 0
  · have hk' : (t.kind == 0) = true := by simpa using hk
    have e : (decide (t.kind = 0) && decide (t.text = s)) = (t.text == s) := by rw [hk, Bool.eq_iff_iff]; simp
    rw [e]
    clear e
    go_enter Tryd.func76, Tryd.ntmps76
    go_wp2_with fail
    refine HA.out.mono ?_; rintro e V ⟨rfl, hb⟩
    go_wp2_with fail
    all_goals (refine bodyPost_ret (v := .bool (t.text == s)) (by simp [results, Tryd.results76, go_sem]) rfl ⟨rfl, ?_⟩; exact bl_alloc hb _)
  · have hk' : (t.kind == 0) = false := by simpa using hk
    have e : (decide (t.kind = 0) && decide (t.text = s)) = false := by simp [hk]
    rw [e]
    clear e
    go_enter Tryd.func76, Tryd.ntmps76
    go_wp2_with fail
    refine HA.out.mono ?_; rintro e V ⟨rfl, hb⟩
    go_wp2_with fail
    all_goals (refine bodyPost_ret (v := .bool false) (by simp [results, Tryd.results76, go_sem, hk']) rfl ⟨rfl, ?_⟩; exact bl_alloc hb _)
theorem room_any (h : Rd w g A c L at_) (n : Nat) : Calls Tryd.prog 98 #[.pointer (some ⟨g, 0, none⟩), .int .i64 n] w fun e w' => Below w.heap.size w w' ∧ ((4096 ≤ n ∧ e = pan (headT (L.drop at_)).line (headT (L.drop at_)).col 22) ∨ (n < 4096 ∧ e = .returned (.tuple #[]))) := by
  have HF := Lib.hid (fail_any h 22)
  generalize headT (L.drop at_) = t at HF ⊢
  clear h
  by_cases hn : 4096 ≤ n
  · have hn' : (n : Int) ≥ 4096 := by omega
    go_enter Tryd.func98, Tryd.ntmps98
    go_wp2_with fail
    refine HF.out.mono ?_; rintro e V ⟨rfl, hb⟩
    exact ⟨rfl, hb, .inl ⟨hn, rfl⟩⟩
  · have hn' : ¬ (n : Int) ≥ 4096 := by omega
    go_enter Tryd.func98, Tryd.ntmps98
    go_wp2_with fail
    refine bodyPost_end (results_none rfl _ _ _) rfl ?_
    exact ⟨Below.refl _ _, by omega, rfl⟩
theorem word_any (h : Rd w g A c L at_) (s : List UInt8) : Calls Tryd.prog 96 #[.pointer (some ⟨g, 0, none⟩), .string ⟨s.toArray⟩] w fun e w' => Rp w g A c L (wordP s (L.drop at_)) (fun _ e _ => e = .returned (.tuple #[])) e w' := by
  have HI := Lib.hid (ris_any h s)
  unfold wordP
  obtain ⟨b, hb⟩ : ∃ b, isP s (L.drop at_) = b := ⟨_, rfl⟩
  rw [hb] at HI ⊢
  cases b with
  | false =>
    simp only [Bool.false_eq_true, if_false]
    go_enter Tryd.func96, Tryd.ntmps96
    go_wp2_with fail
    refine HI.out.mono ?_; rintro e V ⟨rfl, hb⟩
    have h2 := h.below hb
    have HF := Lib.hid (fail_any h2 4)
    go_wp2_with fail
    refine HF.out.mono ?_; rintro e V2 ⟨rfl, hb2⟩
    exact ⟨rfl, (Gr.of_below hb).below hb2, .inl ⟨_, _, _, rfl, rfl⟩⟩
  | true =>
    simp only [if_true]
    have hk : ¬ (headT (L.drop at_)).kind = 3 := by unfold isP at hb; simp only [Bool.and_eq_true, decide_eq_true_eq] at hb; omega
    go_enter Tryd.func96, Tryd.ntmps96
    go_wp2_with fail
    refine HI.out.mono ?_; rintro e V ⟨rfl, hb⟩
    have h2 := h.below hb
    have i0 : IntKind.i64.wrap ((at_ : Int) + 1) = (at_ : Int) + 1 := by have := h2.lt; have := h2.cap; rw [IntKind.wrap_i64]; omega
    obtain ⟨s1, s2⟩ := h2.step hk
    have B := h2.box
    clear h HI
    have r_z : g < V.heap.size := B.lt
    have r_c0 : V.cell? ⟨g, 0, none⟩ = some (.slice A L.length c) := (B.cell 0).trans rfl
    have r_f0 := B.frozen 0
    have r_c1 : V.cell? ⟨g, 1, none⟩ = some (.int .i64 at_) := (B.cell 1).trans rfl
    have r_f1 := B.frozen 1
    go_wp2_with fail
    refine bodyPost_end (results_none rfl _ _ _) rfl ?_
    exact ⟨(Gr.of_below hb).set (p := ⟨g, 1, none⟩) (.inl rfl) _, .inr ⟨(), at_ + 1, by rw [s1], rfl, s2⟩⟩
theorem take_any (h : Rd w g A c L at_) (k : Int) (hk3 : ¬ k = 3) : Calls Tryd.prog 100 #[.pointer (some ⟨g, 0, none⟩), .int .i64 k] w fun e w' => Rp w g A c L (takeP k (L.drop at_)) (fun t e _ => e = .returned (.agg #[.int .i64 (t).kind, .string ⟨(t).text.toArray⟩, .int .i64 (t).num, .int .i64 (t).line, .int .i64 (t).col])) e w' := by
  have h0 := h.below (bl_alloc (Below.refl _ _) (.cells #[.int .i64 0, .string ⟨#[]⟩, .int .i64 0, .int .i64 0, .int .i64 0] 116))
  have R0 : Blk (w.alloc (.cells #[.int .i64 0, .string ⟨#[]⟩, .int .i64 0, .int .i64 0, .int .i64 0] 116)) w.heap.size 116 #[.int .i64 0, .string ⟨#[]⟩, .int .i64 0, .int .i64 0, .int .i64 0] := Blk.new _ _ _
  have HA := Lib.hid (ahead_any h0)
  have bl0 := bl_alloc (Below.refl w.heap.size w) (.cells #[.int .i64 0, .string ⟨#[]⟩, .int .i64 0, .int .i64 0, .int .i64 0] 116)
  unfold takeP
  obtain ⟨t, ht⟩ : ∃ t, headT (L.drop at_) = t := ⟨_, rfl⟩
  rw [ht] at HA ⊢
  by_cases hk : t.kind = k
  · rw [if_pos hk]
    subst hk
    have hk' : (t.kind != t.kind) = false := by simp
    have hg := h.gl
    clear h
    go_enter Tryd.func100, Tryd.ntmps100
    go_wp2_with fail
    refine HA.out.mono ?_; rintro e V ⟨rfl, hb⟩
    have RB := R0.below hb
    have hVb := hb.size
    have h1 := h0.below hb
    have bl1 := bl_step bl0 hb
    have hV : w.heap.size < V.heap.size := by simp only [World.alloc, Array.size_push] at hVb; omega
    have i0 : IntKind.i64.wrap ((at_ : Int) + 1) = (at_ : Int) + 1 := by have := h1.lt; have := h1.cap; rw [IntKind.wrap_i64]; omega
    obtain ⟨s1, s2⟩ := h1.step (by rw [ht]; omega)
    have B := h1.box
    clear h0 R0 HA hVb bl0 h1
    have e1 : ¬ w.heap.size = g := by omega
    have e2 : ¬ V.heap.size = g := by omega
    have e3 : ¬ V.heap.size = w.heap.size := by omega
    have e4 : ¬ g = w.heap.size := by omega
    have e5 : ¬ g = V.heap.size := by omega
    have e6 : ¬ w.heap.size = V.heap.size := by omega
    have r_z : g < V.heap.size := B.lt
    have r_c0 : V.cell? ⟨g, 0, none⟩ = some (.slice A L.length c) := (B.cell 0).trans rfl
    have r_f0 := B.frozen 0
    have r_c1 : V.cell? ⟨g, 1, none⟩ = some (.int .i64 at_) := (B.cell 1).trans rfl
    have r_f1 := B.frozen 1
    have n_z : w.heap.size < V.heap.size := RB.lt
    have n_c0 : V.cell? ⟨w.heap.size, 0, none⟩ = some (.int .i64 0) := (RB.cell 0).trans rfl
    have n_f0 := RB.frozen 0
    have n_c1 : V.cell? ⟨w.heap.size, 1, none⟩ = some (.string ⟨#[]⟩) := (RB.cell 1).trans rfl
    have n_f1 := RB.frozen 1
    have n_c2 : V.cell? ⟨w.heap.size, 2, none⟩ = some (.int .i64 0) := (RB.cell 2).trans rfl
    have n_f2 := RB.frozen 2
    have n_c3 : V.cell? ⟨w.heap.size, 3, none⟩ = some (.int .i64 0) := (RB.cell 3).trans rfl
    have n_f3 := RB.frozen 3
    have n_c4 : V.cell? ⟨w.heap.size, 4, none⟩ = some (.int .i64 0) := (RB.cell 4).trans rfl
    have n_f4 := RB.frozen 4
    go_wp2_with fail
    refine bodyPost_ret (v := (.agg #[.int .i64 (t).kind, .string ⟨(t).text.toArray⟩, .int .i64 (t).num, .int .i64 (t).line, .int .i64 (t).col])) (by simp [results, Tryd.results100, go_sem, e1, e2, e3, e4, e5, e6, n_z, n_c0, n_c1, n_c2, n_c3, n_c4, n_f0, n_f1, n_f2, n_f3, n_f4]) rfl ?_
    have fg : g < w.heap.size := hg
    exact ⟨((((((((Gr.of_below bl1).set (p := ⟨g, 1, none⟩) (.inl rfl) _).set (p := ⟨w.heap.size, 0, none⟩) (.inr (Nat.le_refl _)) _).set (p := ⟨w.heap.size, 1, none⟩) (.inr (Nat.le_refl _)) _).set (p := ⟨w.heap.size, 2, none⟩) (.inr (Nat.le_refl _)) _).set (p := ⟨w.heap.size, 3, none⟩) (.inr (Nat.le_refl _)) _).set (p := ⟨w.heap.size, 4, none⟩) (.inr (Nat.le_refl _)) _).alloc _), .inr ⟨t, at_ + 1, by rw [s1], rfl,
      (((((s2.far (p := ⟨w.heap.size, 0, none⟩) hg _).far (p := ⟨w.heap.size, 1, none⟩) hg _).far (p := ⟨w.heap.size, 2, none⟩) hg _).far (p := ⟨w.heap.size, 3, none⟩) hg _).far (p := ⟨w.heap.size, 4, none⟩) hg _).below (bl_alloc (Below.refl _ _) _)⟩⟩
  · rw [if_neg hk]
    have hk' : (t.kind != k) = true := by simpa using hk
    go_enter Tryd.func100, Tryd.ntmps100
    go_wp2_with fail
    refine HA.out.mono ?_; rintro e V ⟨rfl, hb⟩
    have h2 := (h0.below hb).below (bl_alloc (Below.refl _ _) (.cells #[.int .i64 t.kind, .string ⟨t.text.toArray⟩, .int .i64 t.num, .int .i64 t.line, .int .i64 t.col] 116))
    have bl1 := bl_alloc (bl_step bl0 hb) (.cells #[.int .i64 t.kind, .string ⟨t.text.toArray⟩, .int .i64 t.num, .int .i64 t.line, .int .i64 t.col] 116)
    have HF := Lib.hid (fail_any h2 4)
    rw [ht] at HF
    go_wp2_with fail
    refine HF.out.mono ?_; rintro e V2 ⟨rfl, hb2⟩
    exact ⟨rfl, Gr.of_below (bl_step bl1 hb2), .inl ⟨_, _, _, by rw [failP, ht], rfl⟩⟩
theorem rnum_any (h : Rd w g A c L at_) (lo hi : Int) : Calls Tryd.prog 99 #[.pointer (some ⟨g, 0, none⟩), .int .i64 lo, .int .i64 hi] w fun e w' => Rp w g A c L (numP lo hi (L.drop at_)) (fun v e _ => e = .returned (.int .i64 v)) e w' := by
  have HA := Lib.hid (ahead_any h)
  unfold numP
  obtain ⟨t, ht⟩ : ∃ t, headT (L.drop at_) = t := ⟨_, rfl⟩
  rw [ht] at HA ⊢
  by_cases hk : t.kind = 1
  · rw [if_pos hk]
    by_cases hl : t.num < lo ∨ hi < t.num
    · rw [if_pos hl]
      have hl' : ¬ t.num < lo → hi < t.num := fun h => by omega
      by_cases hl1 : t.num < lo
      · go_enter Tryd.func99, Tryd.ntmps99
        go_wp2_with fail
        refine HA.out.mono ?_; rintro e V ⟨rfl, hb⟩
        have h1 := (h.below hb).below (bl_alloc (Below.refl _ _) (.cells #[.int .i64 t.kind, .string ⟨t.text.toArray⟩, .int .i64 t.num, .int .i64 t.line, .int .i64 t.col] 116))
        have bl1 := bl_alloc hb (.cells #[.int .i64 t.kind, .string ⟨t.text.toArray⟩, .int .i64 t.num, .int .i64 t.line, .int .i64 t.col] 116)
        have HF := Lib.hid (fail_any h1 22)
        rw [ht] at HF
        clear h h1
        rw [hk] at HF bl1
        go_wp2_with fail
        refine HF.out.mono ?_; rintro e V2 ⟨rfl, hb2⟩
        exact ⟨rfl, Gr.of_below (bl_step bl1 hb2), .inl ⟨_, _, _, by rw [failP, ht], rfl⟩⟩
      · have hl2 : hi < t.num := hl' hl1
        go_enter Tryd.func99, Tryd.ntmps99
        go_wp2_with fail
        refine HA.out.mono ?_; rintro e V ⟨rfl, hb⟩
        have h1 := (h.below hb).below (bl_alloc (Below.refl _ _) (.cells #[.int .i64 t.kind, .string ⟨t.text.toArray⟩, .int .i64 t.num, .int .i64 t.line, .int .i64 t.col] 116))
        have bl1 := bl_alloc hb (.cells #[.int .i64 t.kind, .string ⟨t.text.toArray⟩, .int .i64 t.num, .int .i64 t.line, .int .i64 t.col] 116)
        have HF := Lib.hid (fail_any h1 22)
        rw [ht] at HF
        clear h h1 hl hl'
        rw [hk] at HF bl1
        go_wp2_with fail
        refine HF.out.mono ?_; rintro e V2 ⟨rfl, hb2⟩
        exact ⟨rfl, Gr.of_below (bl_step bl1 hb2), .inl ⟨_, _, _, by rw [failP, ht], rfl⟩⟩
    · rw [if_neg hl]
      have hl1 : ¬ t.num < lo := fun h => hl (.inl h)
      have hl2 : ¬ hi < t.num := fun h => hl (.inr h)
      clear hl
      go_enter Tryd.func99, Tryd.ntmps99
      go_wp2_with fail
      refine HA.out.mono ?_; rintro e V ⟨rfl, hb⟩
      have h1 := (h.below hb).below (bl_alloc (Below.refl _ _) (.cells #[.int .i64 t.kind, .string ⟨t.text.toArray⟩, .int .i64 t.num, .int .i64 t.line, .int .i64 t.col] 116))
      have bl1 := bl_alloc hb (.cells #[.int .i64 t.kind, .string ⟨t.text.toArray⟩, .int .i64 t.num, .int .i64 t.line, .int .i64 t.col] 116)
      have HF := Lib.hid (take_any h1 1 (by decide))
      rw [takeP, ht, if_pos hk] at HF
      clear h h1
      rw [hk] at HF bl1
      go_wp2_with fail
      refine HF.out.mono ?_; rintro e V2 ⟨hG, ⟨_, _, _, hp, _⟩ | ⟨t', n, hp, rfl, hR⟩⟩
      · cases hp
      · injection hp with hp1 hp2
        subst hp1
        have hf : ∀ w, (Instr.field 116 (.agg #[.int .i64 (t).kind, .string ⟨(t).text.toArray⟩, .int .i64 (t).num, .int .i64 (t).line, .int .i64 (t).col]) 2).run Tryd.prog w = .ok (.int .i64 t.num) w := fun _ => by kernel_rfl
        rw [hk] at hf
        go_wp2_with fail
        go_ret
        exact ⟨(Gr.of_below bl1).step hG, .inr ⟨_, n, by rw [hp2], rfl, hR⟩⟩
  · rw [if_neg hk]
    have hk' : (t.kind == 1) = false := by simpa using hk
    go_enter Tryd.func99, Tryd.ntmps99
    go_wp2_with fail
    refine HA.out.mono ?_; rintro e V ⟨rfl, hb⟩
    have h1 := (h.below hb).below (bl_alloc (Below.refl _ _) (.cells #[.int .i64 t.kind, .string ⟨t.text.toArray⟩, .int .i64 t.num, .int .i64 t.line, .int .i64 t.col] 116))
    have bl1 := bl_alloc hb (.cells #[.int .i64 t.kind, .string ⟨t.text.toArray⟩, .int .i64 t.num, .int .i64 t.line, .int .i64 t.col] 116)
    have HF := Lib.hid (take_any h1 1 (by decide))
    rw [takeP, ht, if_neg hk] at HF
    clear h h1
    go_wp2_with fail
    refine HF.out.mono ?_; rintro e V2 ⟨hG, ⟨_, _, _, hp, rfl⟩ | ⟨t', n, hp, rfl, hR⟩⟩
    · exact ⟨rfl, (Gr.of_below bl1).step hG, .inl ⟨_, _, _, failP_to hp, rfl⟩⟩
    · cases hp
theorem size_any (h : Rd w g A c L at_) : Calls Tryd.prog 97 #[.pointer (some ⟨g, 0, none⟩)] w fun e w' => Rp w g A c L (numP 0 2147483648 (L.drop at_)) (fun v e _ => e = .returned (.int .i64 v)) e w' := by
  have HA := Lib.hid (rnum_any h 0 2147483648)
  go_enter Tryd.func97, Tryd.ntmps97
  go_wp2_with fail
  refine HA.out.mono ?_; rintro e V ⟨hG, ⟨_, _, _, hp, rfl⟩ | ⟨v, n, hp, rfl, hR⟩⟩
  · exact ⟨rfl, hG, .inl ⟨_, _, _, hp, rfl⟩⟩
  · go_wp2_with fail
    go_ret
    exact ⟨hG, .inr ⟨_, n, hp, rfl, hR⟩⟩
end
end Go.Proofs.YtklomjpnmmaogaaDoor
namespace Go.Proofs.YtklomjpnmmaogaaDoor
open Go Go.RowKit
set_option linter.unusedVariables false
set_option linter.unusedSimpArgs false
set_option maxRecDepth 100000

theorem pinfo_P : (Tryd.prog.info? 82).map (fun i => (i.zero, i.size, i.bytes)) = some (some (.agg #[.int .i64 0, .int .i64 0]), 2, 16) := by kernel_rfl
theorem pinfo_S : (Tryd.prog.info? 80).map (fun i => (i.zero, i.size, i.bytes)) = some (some (.agg #[.int .i64 0, .slice none 0 0]), 2, 32) := by kernel_rfl
theorem pinfo_R : (Tryd.prog.info? 88).map (fun i => (i.zero, i.size, i.bytes)) = some (some (.slice none 0 0), 1, 24) := by kernel_rfl
theorem pinfo_I : (Tryd.prog.info? 2).map (fun i => (i.zero, i.size, i.bytes)) = some (some (.int .i64 0), 1, 8) := by kernel_rfl
theorem pinfo_N : (Tryd.prog.info? 3).map (fun i => (i.zero, i.size, i.bytes)) = some (some (.int .i64 0), 1, 8) := by kernel_rfl
theorem preads2 {w : World} {g : Nat} {t : TypeId} {x y : Value} (h : Blk w g t #[x, y]) : Reads w (g + 1) 2 (some ⟨g, 0, none⟩) 1 [x, y] :=
  ⟨rfl, fun _ => ⟨g, 0, rfl, by omega, fun j u hu => by rw [Nat.zero_add, h.cell j, ← hu]; exact List.getElem?_toArray⟩⟩
theorem preads1 {w : World} {g : Nat} {t : TypeId} {x : Value} (h : Blk w g t #[x]) : Reads w (g + 1) 1 (some ⟨g, 0, none⟩) 1 [x] :=
  ⟨rfl, fun _ => ⟨g, 0, rfl, by omega, fun j u hu => by rw [Nat.zero_add, h.cell j, ← hu]; exact List.getElem?_toArray⟩⟩
section
variable {w wr W : World} {g c q at_ at' base : Nat} {A : Option Addr} {L : List Tok} {cs cs' : Array Value} {e tr te ts : TypeId} {sz n : Nat} {v : Value} {xs : List Value}
/-- A pair more. -/
theorem p_pair {ti : TypeId} {t ty : TypeId} (ht : Tryd.prog.underlying t = some (.slice ti)) (hinfo : (Tryd.prog.info? ti).map (fun i => (i.zero, i.size, i.bytes)) = some (some (.agg #[.int .i64 0, .int .i64 0]), 2, 16)) {l : List (Int × Int)} (ho : OwnP wr base ti v l) {b : Nat} {tb : TypeId} {x y : Int} (hb : Blk wr b tb #[.int .i64 x, .int .i64 y]) (hn : l.length ≤ 5000) (hq : base ≤ wr.heap.size) :
    ∃ D d w', (Builtin.append_ #[t, t] ty #[v, .slice (some ⟨b, 0, none⟩) 1 1]).run Tryd.prog wr = .ok (.slice D (l.length + 1) d) w' ∧ OwnP w' base ti (.slice D (l.length + 1) d) (l ++ [(x, y)]) ∧ wr.grownBy w' v.ownBlock := by
  obtain ⟨v', w', h1, h2, h3, h4⟩ := run_app (ty := ty) (c := 1) ht hinfo rfl (by omega) ho (preads2 hb) (by intro u hu; simp at hu; rcases hu with rfl | rfl <;> rfl) (by unfold maxLen; omega) (by omega) hq
  obtain ⟨D, d, rfl, _⟩ := own_slice h2
  refine ⟨D, d, w', h1, ?_, h3⟩
  have e : flat2 ((l ++ [(x, y)]).map pairI) = flat2 (l.map pairI) ++ [.int .i64 x, .int .i64 y] := by rw [List.map_append]; exact flat2_app _ (pairI (x, y))
  unfold OwnP
  rw [e, List.length_append]
  exact h2
/-- A number more. -/
theorem p_num {t ty : TypeId} (ht : Tryd.prog.underlying t = some (.slice te)) (hinfo : (Tryd.prog.info? te).map (fun i => (i.zero, i.size, i.bytes)) = some (some (.int .i64 0), 1, 8)) {l : List Int} (ho : wr.ownsRow base te 1 v l.length (l.map (Value.int .i64))) {b : Nat} {tb : TypeId} {x : Int} (hb : Blk wr b tb #[.int .i64 x]) (hn : l.length ≤ 281474976710656) (hn2 : (l.length + 1) * 8 ≤ 140737488355328) (hq : base ≤ wr.heap.size) :
    ∃ D d w', (Builtin.append_ #[t, t] ty #[v, .slice (some ⟨b, 0, none⟩) 1 1]).run Tryd.prog wr = .ok (.slice D (l.length + 1) d) w' ∧ w'.ownsRow base te 1 (.slice D (l.length + 1) d) (l ++ [x]).length ((l ++ [x]).map (Value.int .i64)) ∧ wr.grownBy w' v.ownBlock := by
  obtain ⟨v', w', h1, h2, h3, h4⟩ := run_app (ty := ty) (c := 1) ht hinfo rfl (by omega) ho (preads1 hb) (by intro u hu; simp at hu; subst hu; rfl) (by unfold maxLen; omega) (by omega) hq
  obtain ⟨D, d, rfl, _⟩ := own_slice h2
  refine ⟨D, d, w', h1, ?_, h3⟩
  rw [List.length_append, List.map_append]
  exact h2
theorem p_oth (h : wr.ownsRow base e sz v n xs) {e0 : TypeId} {s0 n0 : Nat} {v0 : Value} {xs0 : List Value} (h0 : wr.ownsRow base e0 s0 v0 n0 xs0) (hne : e0 ≠ e) (hg : wr.grownBy W v0.ownBlock) : W.ownsRow base e sz v n xs := by
  refine h.kept hg ?_
  rcases hb : v0.ownBlock with _ | g
  · rcases hv : v.ownBlock with _ | k
    · exact .inl rfl
    · exact .inr (by simp)
  · exact .inr (own_apart h0 h hne hb)
theorem p_snoc {α : Type} {l : List α} {x y : α} {i : Nat} (h : (l ++ [x])[i]? = some y) : (i < l.length ∧ l[i]? = some y) ∨ (i = l.length ∧ y = x) := by
  rw [List.getElem?_append] at h
  split at h
  · exact .inl ⟨by assumption, h⟩
  · rename_i hh
    right
    have : i - l.length = 0 := by
      have := (List.getElem?_eq_some_iff.1 h).1
      simp at this
      omega
    rw [this] at h
    simp at h
    exact ⟨by omega, h.symm⟩
/-- A row more. -/
theorem p_row {t ty : TypeId} (ht : Tryd.prog.underlying t = some (.slice tr)) (hne : tr ≠ te) (hinfo : (Tryd.prog.info? tr).map (fun i => (i.zero, i.size, i.bytes)) = some (some (.slice none 0 0), 1, 24)) {l : List (List Int)} (ho : OwnR wr base tr te v l) {b : Nat} {tb : TypeId} {r : List Int} {E : Option Addr} {f : Nat} (hx : wr.ownsRow base te 1 (.slice E r.length f) r.length (r.map (Value.int .i64))) (hb : Blk wr b tb #[.slice E r.length f]) (hn : l.length ≤ 5000) (hq : base ≤ wr.heap.size) :
    ∃ D d w', (Builtin.append_ #[t, t] ty #[v, .slice (some ⟨b, 0, none⟩) 1 1]).run Tryd.prog wr = .ok (.slice D (l.length + 1) d) w' ∧ OwnR w' base tr te (.slice D (l.length + 1) d) (l ++ [r]) ∧ wr.grownBy w' v.ownBlock ∧ (∀ k, v.ownBlock = some k → base ≤ k) := by
  obtain ⟨us, hl, h0, hu⟩ := ho
  obtain ⟨v', w', h1, h2, h3, h4⟩ := run_app (ty := ty) (c := 1) ht hinfo rfl (by omega) h0 (preads1 hb) (by intro u hu; simp at hu; subst hu; rfl) (by unfold maxLen; omega) (by omega) hq
  obtain ⟨D, d, rfl, _⟩ := own_slice h2
  refine ⟨D, d, w', h1, ⟨us ++ [.slice E r.length f], by simp [hl], by rw [List.length_append]; exact h2, fun i r' u a b => ?_⟩, h3, own_base h0⟩
  rcases p_snoc a with ⟨a1, a2⟩ | ⟨rfl, rfl⟩
  · rcases p_snoc b with ⟨b1, b2⟩ | ⟨rfl, rfl⟩
    · exact p_oth (hu i r' u a2 b2) h0 hne h3
    · omega
  · rcases p_snoc b with ⟨b1, b2⟩ | ⟨_, rfl⟩
    · omega
    · exact p_oth hx h0 hne h3
/-- A set more. -/
theorem p_set {t ty : TypeId} (ht : Tryd.prog.underlying t = some (.slice ts)) (hne : ts ≠ te) (hinfo : (Tryd.prog.info? ts).map (fun i => (i.zero, i.size, i.bytes)) = some (some (.agg #[.int .i64 0, .slice none 0 0]), 2, 32)) {l : List (Int × List Int)} (ho : OwnS wr base ts te v l) {b : Nat} {tb : TypeId} {x : Int} {r : List Int} {E : Option Addr} {f : Nat} (hx : wr.ownsRow base te 1 (.slice E r.length f) r.length (r.map (Value.int .i64))) (hb : Blk wr b tb #[.int .i64 x, .slice E r.length f]) (hn : l.length ≤ 5000) (hq : base ≤ wr.heap.size) :
    ∃ D d w', (Builtin.append_ #[t, t] ty #[v, .slice (some ⟨b, 0, none⟩) 1 1]).run Tryd.prog wr = .ok (.slice D (l.length + 1) d) w' ∧ OwnS w' base ts te (.slice D (l.length + 1) d) (l ++ [(x, r)]) ∧ wr.grownBy w' v.ownBlock ∧ (∀ k, v.ownBlock = some k → base ≤ k) := by
  obtain ⟨us, hl, h0, hu⟩ := ho
  obtain ⟨v', w', h1, h2, h3, h4⟩ := run_app (ty := ty) (c := 1) ht hinfo rfl (by omega) h0 (preads2 hb) (by intro u hu; simp at hu; rcases hu with rfl | rfl <;> rfl) (by unfold maxLen; omega) (by omega) hq
  obtain ⟨D, d, rfl, _⟩ := own_slice h2
  refine ⟨D, d, w', h1, ⟨us ++ [(.int .i64 x, .slice E r.length f)], by simp [hl], by rw [List.length_append, flat2_app]; exact h2, fun i r' u a b => ?_⟩, h3, own_base h0⟩
  rcases p_snoc a with ⟨a1, a2⟩ | ⟨rfl, rfl⟩
  · rcases p_snoc b with ⟨b1, b2⟩ | ⟨rfl, rfl⟩
    · exact ⟨(hu i r' u a2 b2).1, p_oth (hu i r' u a2 b2).2 h0 hne h3⟩
    · omega
  · rcases p_snoc b with ⟨b1, b2⟩ | ⟨_, rfl⟩
    · omega
    · exact ⟨rfl, p_oth hx h0 hne h3⟩
/-- What is owned above the reader stands while the reader reads. -/
theorem own_rd (h : wr.ownsRow base e sz v n xs) (hG : Gr wr g W) (hb : g < base) : W.ownsRow base e sz v n xs := own_gr h hG (fun e => by have := own_base h _ e; omega)
theorem OwnP.rd_ {l : List (Int × Int)} (h : OwnP wr base e v l) (hG : Gr wr g W) (hb : g < base) : OwnP W base e v l := own_rd h hG hb
theorem OwnR.rd_ {rows : List (List Int)} (h : OwnR wr base tr te v rows) (hG : Gr wr g W) (hb : g < base) : OwnR W base tr te v rows := by
  obtain ⟨us, h1, h2, h3⟩ := h
  exact ⟨us, h1, own_rd h2 hG hb, fun i r u a b => own_rd (h3 i r u a b) hG hb⟩
theorem OwnS.rd_ {l : List (Int × List Int)} (h : OwnS wr base ts te v l) (hG : Gr wr g W) (hb : g < base) : OwnS W base ts te v l := by
  obtain ⟨us, h1, h2, h3⟩ := h
  exact ⟨us, h1, own_rd h2 hG hb, fun i r u a b => ⟨(h3 i r u a b).1, own_rd (h3 i r u a b).2 hG hb⟩⟩
theorem Rd.kept (h : Rd wr g A c L at_) {row : Option Nat} (hg : wr.grownBy W row) (hr : ∀ k, row = some k → g < k) : Rd W g A c L at_ :=
  ⟨h.box.grown hg (fun e => by have := hr g e.symm; omega), h.toks.keep (fun p hp => hg.cell_far p (by have := h.box.lt; omega) (fun e => by have := hr p.block e.symm; omega)), h.cap, h.ends⟩
theorem Rd.gr (h : Rd wr g A c L at_) {k : Nat} (hG : Gr wr k W) (hk : g < k) : Rd W g A c L at_ := h.kept hG.out (fun j e => by injection e with e; omega)
/-- The variables: the result, the instance that grows, the reader. -/
structure FrR (wr w : World) (g : Nat) (A : Option Addr) (c : Nat) (L : List Tok) (q at_ : Nat) (cs : Array Value) : Prop where
  gr : Gr w g wr
  rd : Rd wr g A c L at_
  res : Blk wr w.heap.size 27 #[.int .i64 0, .int .i64 0, .slice none 0 0, .slice none 0 0, .int .i64 0, .slice none 0 0]
  box : Blk wr q 27 cs
  hq : w.heap.size < q
  hg : g < w.heap.size
theorem FrR.size (h : FrR wr w g A c L q at_ cs) : q + 1 ≤ wr.heap.size := h.box.lt
theorem FrR.below (h : FrR wr w g A c L q at_ cs) (hb : Below wr.heap.size wr W) : FrR W w g A c L q at_ cs := ⟨h.gr.below hb, h.rd.below hb, h.res.below hb, h.box.below hb, h.hq, h.hg⟩
theorem FrR.drew (h : FrR wr w g A c L q at_ cs) : FrR wr.drew w g A c L q at_ cs := h.below (bl_drew (Below.refl _ _))
theorem FrR.alloc (h : FrR wr w g A c L q at_ cs) (o : Obj) : FrR (wr.alloc o) w g A c L q at_ cs := h.below (bl_alloc (Below.refl _ _) _)
theorem FrR.meth (h : FrR wr w g A c L q at_ cs) (hG : Gr wr g W) (hR : Rd W g A c L at') : FrR W w g A c L q at' cs :=
  ⟨h.gr.step hG, hR, h.res.gr hG (by have := h.hg; omega), h.box.gr hG (by have := h.hg; have := h.hq; omega), h.hq, h.hg⟩
theorem FrR.next (h : FrR wr w g A c L q at_ cs) (hk : ¬ (headT (L.drop at_)).kind = 3) : L.drop (at_ + 1) = (L.drop at_).tail ∧ FrR (wr.setCell ⟨g, 1, none⟩ (.int .i64 ((at_ : Int) + 1))) w g A c L q (at_ + 1) cs :=
  ⟨(h.rd.step hk).1, h.meth ((Gr.refl wr g).set (p := ⟨g, 1, none⟩) (.inl rfl) _) (h.rd.step hk).2⟩
theorem FrR.wrap (h : FrR wr w g A c L q at_ cs) : IntKind.i64.wrap ((at_ : Int) + 1) = (at_ : Int) + 1 := by have := h.rd.lt; have := h.rd.cap; rw [IntKind.wrap_i64]; omega
theorem FrR.put (h : FrR wr w g A c L q at_ cs) (i : Nat) (u : Value) (e : cs.setIfInBounds i u = cs') : FrR (wr.setCell ⟨q, i, none⟩ u) w g A c L q at_ cs' :=
  ⟨h.gr.set (p := ⟨q, i, none⟩) (.inr (Nat.le_of_lt h.hq)) u, h.rd.far (p := ⟨q, i, none⟩) (Nat.lt_trans h.hg h.hq) u, h.res.far (p := ⟨q, i, none⟩) (Nat.ne_of_lt h.hq) u, h.box.put i u e, h.hq, h.hg⟩
theorem FrR.grown (h : FrR wr w g A c L q at_ cs) (hk : ∀ k, v.ownBlock = some k → q + 1 ≤ k) (hg : wr.grownBy W v.ownBlock) : FrR W w g A c L q at_ cs :=
  have h1 := h.hq
  have h2 := h.hg
  ⟨h.gr.grown hg (fun k e => by have := hk k e; omega), h.rd.kept hg (fun k e => by have := hk k e; omega), h.res.grown hg (fun e => by have := hk _ e.symm; omega), h.box.grown hg (fun e => by have := hk _ e.symm; omega), h1, h2⟩
end
/-- Three slices that a call owns. -/
structure Own3 (w : World) (base : Nat) (ti ts : TypeId) (I : IData) (A1 : Option Addr) (c1 : Nat) (A2 : Option Addr) (c2 : Nat) (A3 : Option Addr) (c3 : Nat) : Prop where
  items : OwnP w base ti (.slice A1 I.items.length c1) I.items
  cost : OwnR w base 88 2 (.slice A2 I.cost.length c2) I.cost
  sets : OwnS w base ts 3 (.slice A3 I.sets.length c3) I.sets
section
variable {w w' : World} {base base' : Nat} {ti ts : TypeId} {I : IData} {A1 A2 A3 : Option Addr} {c1 c2 c3 : Nat}
theorem Own3.below (h : Own3 w base ti ts I A1 c1 A2 c2 A3 c3) (hb : Below w.heap.size w w') : Own3 w' base ti ts I A1 c1 A2 c2 A3 c3 := ⟨h.items.below hb, h.cost.below hb, h.sets.below hb⟩
theorem Own3.more (h : Own3 w base ti ts I A1 c1 A2 c2 A3 c3) (hb : base' ≤ base) : Own3 w base' ti ts I A1 c1 A2 c2 A3 c3 := ⟨own_more h.items hb, h.cost.more hb, h.sets.more hb⟩
theorem Own3.set (h : Own3 w base ti ts I A1 c1 A2 c2 A3 c3) {p : Addr} (hp : p.block < base) (u : Value) : Own3 (w.setCell p u) base ti ts I A1 c1 A2 c2 A3 c3 := ⟨h.items.set hp u, h.cost.set hp u, h.sets.set hp u⟩
theorem Own3.gr {g : Nat} (h : Own3 w base ti ts I A1 c1 A2 c2 A3 c3) (hG : Gr w g w') (hb : g < base) : Own3 w' base ti ts I A1 c1 A2 c2 A3 c3 := ⟨h.items.rd_ hG hb, h.cost.rd_ hG hb, h.sets.rd_ hG hb⟩
theorem Own3.inst (h : Own3 w base ti ts I A1 c1 A2 c2 A3 c3) (hi : IIn I) : InstAt w w.heap.size I A1 c1 A2 c2 A3 c3 := by
  refine ⟨Reads.of_own h.items, h.cost.rd, h.sets.rd, cap_of h.items, ?_, ?_, hi, Nat.le_refl _⟩
  · obtain ⟨us, _, h2, _⟩ := h.cost
    exact cap_of h2
  · obtain ⟨us, _, h2, _⟩ := h.sets
    exact cap_of h2
theorem r_nil (w : World) (base : Nat) (tr te : TypeId) : OwnR w base tr te (.slice none 0 0) [] := ⟨[], rfl, own_nil _ _ _ _, fun i r u hr => by simp at hr⟩
theorem s_nil (w : World) (base : Nat) (ts te : TypeId) : OwnS w base ts te (.slice none 0 0) [] := ⟨[], rfl, own_nil _ _ _ _, fun i r u hr => by simp at hr⟩
end
theorem num_len {lo hi v : Int} {l r : List Tok} (h : numP lo hi l = .ok v r) : r.length ≤ l.length := by
  unfold numP at h
  split at h
  · split at h
    · cases h
    · injection h with _ h; rw [← h, List.length_tail]; omega
  · cases h
theorem num_bd {lo hi v : Int} {l r : List Tok} (h : numP lo hi l = .ok v r) : lo ≤ v ∧ v ≤ hi := by
  unfold numP at h
  split at h
  · split at h
    · cases h
    · injection h with h _; omega
  · cases h
theorem take_len {k : Int} {t : Tok} {l r : List Tok} (h : takeP k l = .ok t r) : r.length ≤ l.length := by
  unfold takeP at h
  split at h
  · injection h with _ h; rw [← h, List.length_tail]; omega
  · cases h
theorem elems_len {size : Int} : ∀ (f : Nat) (last : Int) (acc es : List Int) (l r : List Tok), elemsP size f last acc l = .ok es r → r.length ≤ l.length
  | 0, last, acc, es, l, r, h => by
    injection h with _ h; rw [← h]; exact Nat.le_refl _
  | f + 1, last, acc, es, l, r, h => by
    rw [elemsP] at h
    split at h
    · split at h
      · cases h
      · have := elems_len f _ _ _ _ _ h
        rw [List.length_tail] at this
        omega
    · injection h with _ h; rw [← h]; exact Nat.le_refl _
/-- An instance that is handed back. -/
def KV (w : World) (I : IData) (e : Ending) (w' : World) : Prop := ∃ D1 d1 D2 d2 D3 d3, e = .returned (.agg #[.int .i64 I.kind, .int .i64 I.cap, .slice D1 I.items.length d1, .slice D2 I.cost.length d2, .int .i64 I.size, .slice D3 I.sets.length d3]) ∧
  Own3 w' w.heap.size 82 80 I D1 d1 D2 d2 D3 d3
theorem Rd.res6 {w : World} {g c at_ r : Nat} {A : Option Addr} {L : List Tok} (h : Rd w g A c L at_) (hr : g < r) (a b c' d e f : Value) : Rd ((((((w.setCell ⟨r, 0, none⟩ a).setCell ⟨r, 1, none⟩ b).setCell ⟨r, 2, none⟩ c').setCell ⟨r, 3, none⟩ d).setCell ⟨r, 4, none⟩ e).setCell ⟨r, 5, none⟩ f) g A c L at_ :=
  (((((h.far (p := ⟨r, 0, none⟩) hr _).far (p := ⟨r, 1, none⟩) hr _).far (p := ⟨r, 2, none⟩) hr _).far (p := ⟨r, 3, none⟩) hr _).far (p := ⟨r, 4, none⟩) hr _).far (p := ⟨r, 5, none⟩) hr _
theorem Gr.res6 {w W : World} {g r : Nat} (h : Gr w g W) (hr : w.heap.size ≤ r) (a b c' d e f : Value) : Gr w g ((((((W.setCell ⟨r, 0, none⟩ a).setCell ⟨r, 1, none⟩ b).setCell ⟨r, 2, none⟩ c').setCell ⟨r, 3, none⟩ d).setCell ⟨r, 4, none⟩ e).setCell ⟨r, 5, none⟩ f) :=
  (((((h.set (p := ⟨r, 0, none⟩) (.inr hr) _).set (p := ⟨r, 1, none⟩) (.inr hr) _).set (p := ⟨r, 2, none⟩) (.inr hr) _).set (p := ⟨r, 3, none⟩) (.inr hr) _).set (p := ⟨r, 4, none⟩) (.inr hr) _).set (p := ⟨r, 5, none⟩) (.inr hr) _
theorem Own3.res6 {w : World} {base r : Nat} {ti ts : TypeId} {I : IData} {A1 A2 A3 : Option Addr} {c1 c2 c3 : Nat} (h : Own3 w base ti ts I A1 c1 A2 c2 A3 c3) (hr : r < base) (a b c' d e f : Value) : Own3 ((((((w.setCell ⟨r, 0, none⟩ a).setCell ⟨r, 1, none⟩ b).setCell ⟨r, 2, none⟩ c').setCell ⟨r, 3, none⟩ d).setCell ⟨r, 4, none⟩ e).setCell ⟨r, 5, none⟩ f) base ti ts I A1 c1 A2 c2 A3 c3 :=
  (((((h.set (p := ⟨r, 0, none⟩) hr _).set (p := ⟨r, 1, none⟩) hr _).set (p := ⟨r, 2, none⟩) hr _).set (p := ⟨r, 3, none⟩) hr _).set (p := ⟨r, 4, none⟩) hr _).set (p := ⟨r, 5, none⟩) hr _
/-- The end: the instance is stored into the result. -/
theorem FrR.fin {wr w : World} {g c q at_ : Nat} {A : Option Addr} {L : List Tok} {cs : Array Value} (h : FrR wr w g A c L q at_ cs) {I : IData} {D1 D2 D3 : Option Addr} {d1 d2 d3 : Nat} {T : PR IData} {a b c' d e f v : Value} (hv : v = .agg #[.int .i64 I.kind, .int .i64 I.cap, .slice D1 I.items.length d1, .slice D2 I.cost.length d2, .int .i64 I.size, .slice D3 I.sets.length d3]) (ho : Own3 wr (q + 1) 82 80 I D1 d1 D2 d2 D3 d3) (hT : T = .ok I (L.drop at_)) :
    Rp w g A c L T (KV w) (.returned v) ((((((wr.setCell ⟨w.heap.size, 0, none⟩ a).setCell ⟨w.heap.size, 1, none⟩ b).setCell ⟨w.heap.size, 2, none⟩ c').setCell ⟨w.heap.size, 3, none⟩ d).setCell ⟨w.heap.size, 4, none⟩ e).setCell ⟨w.heap.size, 5, none⟩ f) := by
  have h1 := h.hq
  exact ⟨h.gr.res6 (Nat.le_refl _) _ _ _ _ _ _, .inr ⟨I, at_, hT, ⟨D1, d1, D2, d2, D3, d3, by rw [hv], (ho.res6 (by omega) _ _ _ _ _ _).more (by omega)⟩, h.rd.res6 h.hg _ _ _ _ _ _⟩⟩
end Go.Proofs.YtklomjpnmmaogaaDoor
