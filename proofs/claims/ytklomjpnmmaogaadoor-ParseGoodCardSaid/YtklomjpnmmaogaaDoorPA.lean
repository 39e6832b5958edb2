/- What is parsed out of tokens, plain. -/
import Derived.Test.YtklomjpnmmaogaaDoorLA
import Derived.Test.YtklomjpnmmaogaaDoorIMem
namespace Go.Proofs.YtklomjpnmmaogaaDoor
open Go Go.RowKit
set_option linter.unusedVariables false
set_option linter.unusedSimpArgs false
set_option maxRecDepth 100000

/-- What a piece of the reading comes to: a place and an error, or what is read and the tokens that are left. -/
inductive PR (α : Type) where
  | bad (line col : Nat) (e : Int)
  | ok (a : α) (rest : List Tok)
def PR.bind {α β : Type} (x : PR α) (f : α → List Tok → PR β) : PR β := match x with
  | .bad a b e => .bad a b e
  | .ok a r => f a r
theorem PR.bind_bad {α β : Type} {a b : Nat} {e : Int} {f : α → List Tok → PR β} : (PR.bad a b e).bind f = .bad a b e := rfl
theorem PR.bind_ok {α β : Type} {x : α} {r : List Tok} {f : α → List Tok → PR β} : (PR.ok x r).bind f = f x r := rfl
def headT : List Tok → Tok
  | [] => ⟨3, [], 0, 0, 0⟩
  | t :: _ => t
def failP {α : Type} (l : List Tok) (e : Int) : PR α := .bad (headT l).line (headT l).col e
def isP (s : List UInt8) (l : List Tok) : Bool := decide ((headT l).kind = 0) && decide ((headT l).text = s)
def wordP (s : List UInt8) (l : List Tok) : PR Unit := if isP s l = true then .ok () l.tail else failP l 4
def takeP (k : Int) (l : List Tok) : PR Tok := if (headT l).kind = k then .ok (headT l) l.tail else failP l 4
def numP (lo hi : Int) (l : List Tok) : PR Int :=
  if (headT l).kind = 1 then (if (headT l).num < lo ∨ hi < (headT l).num then failP l 22 else .ok (headT l).num l.tail) else failP l 4
def wKnap : List UInt8 := [107, 110, 97, 112, 115, 97, 99, 107]
def wAss : List UInt8 := [97, 115, 115, 105, 103, 110, 109, 101, 110, 116]
def wTsp : List UInt8 := [116, 115, 112]
def wCov : List UInt8 := [99, 111, 118, 101, 114]
def wCap : List UInt8 := [99, 97, 112, 97, 99, 105, 116, 121]
def wItem : List UInt8 := [105, 116, 101, 109]
def wRow : List UInt8 := [114, 111, 119]
def wSet : List UInt8 := [115, 101, 116]
def itemsP : Nat → List (Int × Int) → List Tok → PR (List (Int × Int))
  | 0, acc, l => .ok acc l
  | f + 1, acc, l =>
    if isP wItem l = true then
      (if 4096 ≤ acc.length then failP l 22
       else (numP 0 2147483648 l.tail).bind fun v l1 => (numP 0 2147483648 l1).bind fun x l2 => itemsP f (acc ++ [(v, x)]) l2)
    else .ok acc l
def knapP (l : List Tok) : PR IData :=
  (wordP wCap l).bind fun _ l1 => (numP 0 2147483648 l1).bind fun c l2 => (itemsP l2.length [] l2).bind fun xs l3 => .ok ⟨0, c, xs, [], 0, []⟩ l3
/-- Does a tour's own place hold a number that is none? -/
def diagP (k : Int) (i c : Nat) (l : List Tok) : Bool :=
  decide (k = 2) && (decide (i = c) && (decide ((headT l).kind = 1) && (decide (¬ (headT l).num = 0) && (decide (-2147483648 ≤ (headT l).num) && decide ((headT l).num ≤ 2147483648)))))
def rowP (k : Int) (i : Nat) : Nat → Nat → List Int → List Tok → PR (List Int)
  | 0, _, acc, l => .ok acc l
  | f + 1, c, acc, l =>
    if diagP k i c l = true then failP l 4
    else (numP (-2147483648) 2147483648 l).bind fun v l1 => rowP k i f (c + 1) (acc ++ [v]) l1
def rowsP (k : Int) (n : Nat) : Nat → Nat → List (List Int) → List Tok → PR (List (List Int))
  | 0, _, acc, l => .ok acc l
  | f + 1, i, acc, l =>
    (wordP wRow l).bind fun _ l1 => (rowP k i n 0 [] l1).bind fun r l2 => rowsP k n f (i + 1) (acc ++ [r]) l2
def squareP (k : Int) (l : List Tok) : PR IData :=
  (numP 1 64 l).bind fun n l1 => (rowsP k n.toNat n.toNat 0 [] l1).bind fun rs l2 => .ok ⟨k, 0, [], rs, 0, []⟩ l2
def elemsP (size : Int) : Nat → Int → List Int → List Tok → PR (List Int)
  | 0, _, acc, l => .ok acc l
  | f + 1, last, acc, l =>
    if (headT l).kind = 1 then
      (if (headT l).num ≤ last ∨ size ≤ (headT l).num then failP l 4 else elemsP size f (headT l).num (acc ++ [(headT l).num]) l.tail)
    else .ok acc l
def setsP (size : Int) : Nat → List (Int × List Int) → List Tok → PR (List (Int × List Int))
  | 0, acc, l => .ok acc l
  | f + 1, acc, l =>
    if isP wSet l = true then
      (if 4096 ≤ acc.length then failP l 22
       else (numP 0 2147483648 l.tail).bind fun c l1 => (takeP 2 l1).bind fun _ l2 => (elemsP size l2.length (-1) [] l2).bind fun es l3 => setsP size f (acc ++ [(c, es)]) l3)
    else .ok acc l
def coverP (l : List Tok) : PR IData :=
  (numP 0 4096 l).bind fun n l1 => (setsP n l1.length [] l1).bind fun ss l2 => .ok ⟨3, 0, [], [], n, ss⟩ l2
def bodyP (l : List Tok) : PR IData :=
  if isP wKnap l = true then knapP l.tail
  else if isP wAss l = true then squareP 1 l.tail
  else if isP wTsp l = true then squareP 2 l.tail
  else if isP wCov l = true then coverP l.tail
  else failP l 4
def wholeP (l : List Tok) : PR IData := (bodyP l).bind fun x l1 => if (headT l1).kind = 3 then .ok x l1 else failP l1 4
/-- What a text comes to. -/
inductive PT where
  | bad (line col : Nat) (e : Int)
  | ok (I : IData)
def PR.out : PR IData → PT
  | .bad a b e => .bad a b e
  | .ok I _ => .ok I
def parseT (s : List UInt8) : PT := match lexT s with
  | .err a b e => .bad a b e
  | .ok l => (wholeP l).out

/-- The last token, and it alone, is an end. -/
def EndsL : List Tok → Prop
  | [] => False
  | t :: r => (r = [] ∧ t.kind = 3) ∨ (¬ t.kind = 3 ∧ EndsL r)
theorem EndsL.pos {l : List Tok} (h : EndsL l) : 0 < l.length := by
  cases l with
  | nil => exact h.elim
  | cons t r => simp
theorem EndsL.tail {l : List Tok} (h : EndsL l) (hk : ¬ (headT l).kind = 3) : EndsL l.tail := by
  cases l with
  | nil => exact h.elim
  | cons t r =>
    rcases h with ⟨_, h⟩ | ⟨_, h⟩
    · exact absurd h hk
    · exact h
theorem EndsL.drop_head {L : List Tok} {n : Nat} (h : EndsL (L.drop n)) : n < L.length ∧ ∃ t, L[n]? = some t ∧ headT (L.drop n) = t ∧ (L.drop n).tail = L.drop (n + 1) := by
  have h1 := h.pos
  rw [List.length_drop] at h1
  have h2 : n < L.length := by omega
  refine ⟨h2, L[n], List.getElem?_eq_getElem h2, ?_, ?_⟩
  · rw [List.drop_eq_getElem_cons h2]; rfl
  · rw [List.drop_eq_getElem_cons h2]; rfl
end Go.Proofs.YtklomjpnmmaogaaDoor
