/- The tokens of a text, plain: what the document says, over lists of bytes. -/
import Derived.Test.YtklomjpnmmaogaaDoorNumMath
import Derived.Laws.Strings3
import Derived.Lib.ParseIntB
namespace Go.Proofs.YtklomjpnmmaogaaDoor
open Go Go.RowKit
set_option linter.unusedVariables false
set_option linter.unusedSimpArgs false
set_option maxRecDepth 100000

def letB (c : UInt8) : Bool := decide (97 ≤ c.toNat) && decide (c.toNat ≤ 122)
def digB (c : UInt8) : Bool := decide (48 ≤ c.toNat) && decide (c.toNat ≤ 57)
def anB (c : UInt8) : Bool := letB c || digB c
/-- Is there a byte from low to high at the head? -/
def contL (l : List UInt8) (low high : Nat) : Bool := match l with
  | [] => false
  | c :: _ => decide (low ≤ c.toNat) && decide (c.toNat ≤ high)
/-- How many bytes the code point has that begins here; nought: none does. -/
def pointC (c : UInt8) (r : List UInt8) : Nat :=
    if c.toNat < 128 then 1
    else if 194 ≤ c.toNat ∧ c.toNat ≤ 223 then (if contL r 128 191 = true then 2 else 0)
    else if 224 ≤ c.toNat ∧ c.toNat ≤ 239 then (if contL r (if c.toNat = 224 then 160 else 128) (if c.toNat = 237 then 159 else 191) = true ∧ contL (r.drop 1) 128 191 = true then 3 else 0)
    else if 240 ≤ c.toNat ∧ c.toNat ≤ 244 then (if contL r (if c.toNat = 240 then 144 else 128) (if c.toNat = 244 then 143 else 191) = true ∧ contL (r.drop 1) 128 191 = true ∧ contL (r.drop 2) 128 191 = true then 4 else 0)
    else 0
def pointL : List UInt8 → Nat
  | [] => 0
  | c :: r => pointC c r
/-- A token: its kind, its text, its number, its place. -/
structure Tok where
  kind : Int
  text : List UInt8
  num : Int
  line : Nat
  col : Nat
  deriving DecidableEq
inductive LexR where
  | err (line col : Nat) (e : Int)
  | ok (l : List Tok)
  deriving DecidableEq
def LexR.cons (t : Tok) : LexR → LexR
  | .err a b e => .err a b e
  | .ok l => .ok (t :: l)
def LexR.pre (out : List Tok) : LexR → LexR
  | .err a b e => .err a b e
  | .ok l => .ok (out ++ l)
/-- A run's token, or its error. -/
def tokenL (t : List UInt8) : Int × Int × Int :=
  if t.all letB = true then (if 32 < t.length then (21, 0, 0) else (0, 0, 0))
  else if t.any letB = true then (21, 0, 0)
  else match Lib.parseIntB 64 t with
    | .ok v => (0, 1, v)
    | _ => (5, 0, 0)
def headDig : List UInt8 → Bool
  | [] => false
  | c :: _ => digB c
/-- May a run begin here? -/
def begB : List UInt8 → Bool
  | [] => false
  | c :: r => anB c || (decide (c.toNat = 45) && headDig r)
def lexL : Nat → List UInt8 → Nat → Nat → Bool → LexR
  | 0, _, _, _, _ => .ok []
  | _ + 1, [], line, col, _ => .ok [⟨3, [], 0, line, col⟩]
  | f + 1, c :: r, line, col, rem =>
    if pointL (c :: r) = 0 then .err line col 20
    else if c.toNat = 10 then lexL f r (line + 1) 1 false
    else if rem = true ∨ c.toNat = 32 ∨ c.toNat = 9 ∨ c.toNat = 13 ∨ c.toNat = 35 then lexL f ((c :: r).drop (pointL (c :: r))) line (col + 1) (rem || decide (c.toNat = 35))
    else if c.toNat = 58 then (lexL f r line (col + 1) false).cons ⟨2, [58], 0, line, col⟩
    else if begB (c :: r) = true then
      (if (tokenL (c :: r.takeWhile anB)).1 = 0 then
        (lexL f (r.dropWhile anB) line (col + 1 + (r.takeWhile anB).length) false).cons ⟨(tokenL (c :: r.takeWhile anB)).2.1, c :: r.takeWhile anB, (tokenL (c :: r.takeWhile anB)).2.2, line, col⟩
      else .err line col (tokenL (c :: r.takeWhile anB)).1)
    else .err line col 20
theorem point_pos {c : UInt8} {r : List UInt8} (h : ¬ pointL (c :: r) = 0) : ∃ k, pointL (c :: r) = k + 1 := ⟨pointL (c :: r) - 1, by omega⟩
theorem dropWhile_le {α : Type} (p : α → Bool) : ∀ l : List α, (l.dropWhile p).length ≤ l.length
  | [] => Nat.le_refl _
  | x :: l => by
    rw [List.dropWhile_cons]
    split
    · have := dropWhile_le p l
      simp only [List.length_cons]
      omega
    · exact Nat.le_refl _
/-- More rounds than there are bytes make no difference. -/
theorem lexL_more : ∀ (f g : Nat) (l : List UInt8) (line col : Nat) (rem : Bool), l.length < f → l.length < g → lexL f l line col rem = lexL g l line col rem
  | 0, _, _, _, _, _, h, _ => by omega
  | _ + 1, 0, _, _, _, _, _, h => by omega
  | f + 1, g + 1, [], _, _, _, _, _ => rfl
  | f + 1, g + 1, c :: r, line, col, rem, hf, hg => by
    have h1 : ∀ (line col : Nat) (rem : Bool), lexL f r line col rem = lexL g r line col rem := fun line col rem => lexL_more f g r line col rem (by simp at hf; omega) (by simp at hg; omega)
    have h2 : ∀ (line col : Nat) (rem : Bool), lexL f (r.dropWhile anB) line col rem = lexL g (r.dropWhile anB) line col rem := fun line col rem => by
      have := dropWhile_le anB r
      exact lexL_more f g _ line col rem (by simp at hf; omega) (by simp at hg; omega)
    simp only [lexL]
    by_cases hp : pointL (c :: r) = 0
    · rw [if_pos hp, if_pos hp]
    · have h3 : ∀ (line col : Nat) (rem : Bool), lexL f ((c :: r).drop (pointL (c :: r))) line col rem = lexL g ((c :: r).drop (pointL (c :: r))) line col rem := fun line col rem => by
        have hl : ((c :: r).drop (pointL (c :: r))).length ≤ r.length := by
          obtain ⟨k, hk⟩ := point_pos hp
          rw [hk, List.length_drop, List.length_cons]
          omega
        exact lexL_more f g _ line col rem (by simp at hf; omega) (by simp at hg; omega)
      rw [if_neg hp, if_neg hp]
      simp only [h1, h2, h3]
/-- The tokens of a text, from a place on. -/
def lexF (l : List UInt8) (line col : Nat) (rem : Bool) : LexR := lexL (l.length + 1) l line col rem
section
variable {line col : Nat} {rem : Bool} {c : UInt8} {r : List UInt8}
theorem lexF_nil : lexF [] line col rem = .ok [⟨3, [], 0, line, col⟩] := rfl
theorem lexF_of {f : Nat} {l : List UInt8} (h : l.length < f) : lexL f l line col rem = lexF l line col rem := lexL_more f _ l line col rem h (Nat.lt_succ_self _)
theorem lexF_bad (h : pointL (c :: r) = 0) : lexF (c :: r) line col rem = .err line col 20 := by
  simp only [lexF, List.length_cons, lexL]
  rw [if_pos h]
theorem lexF_feed (h : c.toNat = 10) : lexF (c :: r) line col rem = lexF r (line + 1) 1 false := by
  have hp : ¬ pointL (c :: r) = 0 := by
    show ¬ pointC c r = 0
    unfold pointC
    rw [if_pos (by omega)]
    decide
  simp only [lexF, List.length_cons, lexL]
  rw [if_neg hp, if_pos h]
theorem lexF_skip (hp : ¬ pointL (c :: r) = 0) (h : ¬ c.toNat = 10) (h2 : rem = true ∨ c.toNat = 32 ∨ c.toNat = 9 ∨ c.toNat = 13 ∨ c.toNat = 35) : lexF (c :: r) line col rem = lexF ((c :: r).drop (pointL (c :: r))) line (col + 1) (rem || decide (c.toNat = 35)) := by
  have hl : ((c :: r).drop (pointL (c :: r))).length ≤ r.length := by
    obtain ⟨k, hk⟩ := point_pos hp
    rw [hk, List.length_drop, List.length_cons]
    omega
  have e := lexF_of (f := r.length + 1) (line := line) (col := col + 1) (rem := rem || decide (c.toNat = 35)) (l := (c :: r).drop (pointL (c :: r))) (by omega)
  rw [← e]
  simp only [lexF, List.length_cons]
  rw [lexL, if_neg hp, if_neg h, if_pos h2]
theorem point_ascii (h : c.toNat < 128) : pointL (c :: r) = 1 := by
  show pointC c r = 1
  unfold pointC
  rw [if_pos h]
theorem lexF_colon (h : c.toNat = 58) : lexF (c :: r) line col false = (lexF r line (col + 1) false).cons ⟨2, [58], 0, line, col⟩ := by
  have hp : ¬ pointL (c :: r) = 0 := by rw [point_ascii (by omega)]; decide
  simp only [lexF, List.length_cons]
  rw [lexL, if_neg hp, if_neg (by omega), if_neg (by simp; omega), if_pos h]
theorem beg_ascii (h : begB (c :: r) = true) : c.toNat < 128 ∧ ¬ c.toNat = 10 ∧ ¬ c.toNat = 32 ∧ ¬ c.toNat = 9 ∧ ¬ c.toNat = 13 ∧ ¬ c.toNat = 35 ∧ ¬ c.toNat = 58 := by
  simp only [begB, anB, letB, digB, Bool.or_eq_true, Bool.and_eq_true, decide_eq_true_eq] at h
  omega
/-- What a run comes to, of which some bytes have been read. -/
def runR (acc rest : List UInt8) (line col : Nat) : LexR :=
  if (tokenL (acc ++ rest.takeWhile anB)).1 = 0 then
    (lexF (rest.dropWhile anB) line (col + (acc ++ rest.takeWhile anB).length) false).cons ⟨(tokenL (acc ++ rest.takeWhile anB)).2.1, acc ++ rest.takeWhile anB, (tokenL (acc ++ rest.takeWhile anB)).2.2, line, col⟩
  else .err line col (tokenL (acc ++ rest.takeWhile anB)).1
theorem lexF_run (h : begB (c :: r) = true) : lexF (c :: r) line col false = runR [c] r line col := by
  obtain ⟨h1, h2, h3, h4, h5, h6, h7⟩ := beg_ascii h
  have hp : ¬ pointL (c :: r) = 0 := by rw [point_ascii h1]; decide
  have e : ∀ (line col : Nat) (rem : Bool), lexL (r.length + 1) (r.dropWhile anB) line col rem = lexF (r.dropWhile anB) line col rem := fun line col rem => lexF_of (by have := dropWhile_le anB r; omega)
  simp only [lexF, List.length_cons]
  rw [lexL, if_neg hp, if_neg h2, if_neg (by simp; omega), if_neg h7, if_pos h, e]
  unfold runR
  simp only [List.singleton_append, List.length_cons]
  rw [show col + 1 + (r.takeWhile anB).length = col + ((r.takeWhile anB).length + 1) by omega]
theorem lexF_none (hp : ¬ pointL (c :: r) = 0) (h : ¬ c.toNat = 10) (h2 : ¬ (c.toNat = 32 ∨ c.toNat = 9 ∨ c.toNat = 13 ∨ c.toNat = 35)) (h3 : ¬ c.toNat = 58) (h4 : begB (c :: r) = false) : lexF (c :: r) line col false = .err line col 20 := by
  simp only [lexF, List.length_cons]
  rw [lexL, if_neg hp, if_neg h, if_neg (by simpa using h2), if_neg h3, if_neg (by rw [h4]; decide)]
theorem runR_more {acc : List UInt8} (h : anB c = true) : runR acc (c :: r) line col = runR (acc ++ [c]) r line col := by
  unfold runR
  rw [List.takeWhile_cons, if_pos h, List.dropWhile_cons, if_pos h]
  simp only [List.append_assoc, List.singleton_append]
theorem runR_stop {acc rest : List UInt8} (h : ∀ c r, rest = c :: r → anB c = false) : runR acc rest line col = if (tokenL acc).1 = 0 then (lexF rest line (col + acc.length) false).cons ⟨(tokenL acc).2.1, acc, (tokenL acc).2.2, line, col⟩ else .err line col (tokenL acc).1 := by
  have e1 : rest.takeWhile anB = [] := by
    cases rest with
    | nil => rfl
    | cons c r => rw [List.takeWhile_cons, h c r rfl]; rfl
  have e2 : rest.dropWhile anB = rest := by
    cases rest with
    | nil => rfl
    | cons c r => rw [List.dropWhile_cons, h c r rfl]; rfl
  unfold runR
  rw [e1, e2, List.append_nil]
end
theorem LexR.pre_nil {x : LexR} : x.pre [] = x := by cases x <;> rfl
theorem LexR.pre_cons {out : List Tok} {t : Tok} {x : LexR} : (x.cons t).pre out = x.pre (out ++ [t]) := by cases x <;> simp [LexR.pre, LexR.cons]
/-- The whole: too long a text, or its tokens. -/
def lexT (l : List UInt8) : LexR := if 1048576 < l.length then .err 1 1 7 else lexF l 1 1 false
end Go.Proofs.YtklomjpnmmaogaaDoor
