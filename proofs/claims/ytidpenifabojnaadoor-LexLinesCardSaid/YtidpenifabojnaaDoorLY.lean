/- What is asked of a note, plain: lines' ends become blanks; what LexLines says of two texts. -/
import Derived.Test.YtidpenifabojnaaDoorLV
import Derived.Lib.Replace
import Derived.Lib.SplitLaws
namespace Go.Proofs.YtidpenifabojnaaDoor
open Go Go.RowKit
set_option linter.unusedVariables false
set_option linter.unusedSimpArgs false
set_option maxRecDepth 100000

theorem ib_split (c : UInt8) : ∀ (l : List UInt8), (Lib.indexByte l c = -1 ∧ c ∉ l) ∨ ∃ pre post, l = pre ++ c :: post ∧ c ∉ pre ∧ Lib.indexByte l c = pre.length
  | [] => .inl ⟨rfl, by simp⟩
  | b :: l => by
    unfold Lib.indexByte
    by_cases h : b = c
    · subst h
      exact .inr ⟨[], l, rfl, by simp, by simp⟩
    · have hb : (b == c) = false := by simpa using h
      rw [hb]
      simp only [Bool.false_eq_true, if_false]
      rcases ib_split c l with ⟨e, hn⟩ | ⟨pre, post, e, hn, hi⟩
      · rw [e]
        exact .inl ⟨rfl, by simp [hn]; exact fun e => h e.symm⟩
      · rw [hi]
        refine .inr ⟨b :: pre, post, by rw [e]; rfl, by simp [hn]; exact fun e => h e.symm, ?_⟩
        rw [if_neg (by simp)]
        simp
theorem repl_free : ∀ (k : Nat) (s : List UInt8), s.count 10 ≤ k → (∀ d ∈ Lib.replaceK [10] [32] k s, ¬ d = 10) ∧ (Lib.replaceK [10] [32] k s).length = s.length
  | 0, s, h => by
    have hn : (10 : UInt8) ∉ s := fun hm => by
      have := List.count_pos_iff.2 hm
      omega
    exact ⟨fun d hd e => hn (by rw [← e]; exact hd), rfl⟩
  | k + 1, s, h => by
    rcases ib_split 10 s with ⟨e, hn⟩ | ⟨pre, post, e, hn, hi⟩
    · have : Lib.replaceK [10] [32] (k + 1) s = s := by
        unfold Lib.replaceK
        rw [Lib.index_one, e]
        rfl
      rw [this]
      exact ⟨fun d hd e => hn (by rw [← e]; exact hd), rfl⟩
    · have hr := Lib.replaceK_hit [10] [32] k s pre.length (by rw [Lib.index_one]; exact hi)
      have e1 : s.take pre.length = pre := by rw [e, List.take_left]
      have e2 : s.drop (pre.length + ([10] : List UInt8).length) = post := by
        rw [e]
        show (pre ++ 10 :: post).drop (pre.length + 1) = post
        rw [← List.drop_drop, List.drop_left]
        rfl
      rw [e1, e2] at hr
      rw [hr]
      have hc : post.count 10 ≤ k := by
        rw [e, List.count_append, List.count_cons] at h
        simp at h
        omega
      obtain ⟨h1, h2⟩ := repl_free k post hc
      refine ⟨fun d hd => ?_, ?_⟩
      · rcases List.mem_append.1 hd with hd | hd
        · rcases List.mem_append.1 hd with hd | hd
          · exact fun e => hn (by rw [← e]; exact hd)
          · have : d = 32 := by simpa using hd
            rw [this]; decide
        · exact h1 d hd
      · rw [e]
        simp only [List.length_append, List.length_cons, List.length_nil, h2]
        omega
theorem repl_all (s : List UInt8) : (∀ d ∈ Lib.replaceAll s [10] [32], ¬ d.toNat = 10) ∧ (Lib.replaceAll s [10] [32]).length = s.length := by
  have e : Lib.replaceAll s [10] [32] = Lib.replaceK [10] [32] (s.count 10) s := by
    unfold Lib.replaceAll Lib.replace
    rw [if_neg (by decide)]
    unfold Lib.replaceNum
    rw [if_pos (by left; decide), Lib.count_one]
  rw [e]
  obtain ⟨h1, h2⟩ := repl_free _ s (Nat.le_refl _)
  exact ⟨fun d hd h => h1 d hd (UInt8.toNat_inj.1 h), h2⟩
theorem feeds_count (l : List UInt8) : Lib.countByte l 10 = feeds l := by
  unfold Lib.countByte feeds
  rw [List.count_eq_countP]
  congr 1
  funext d
  by_cases h : d = 10
  · subst h; decide
  · have : ¬ d.toNat = 10 := fun e => h (UInt8.toNat_inj.1 e)
    simp [h, this]
theorem feeds_le (l : List UInt8) : feeds l ≤ l.length := List.countP_le_length
/-- No token, and no fault, stands behind this line. -/
def LineLe (B : Nat) : LexR → Prop
  | .err a _ _ => a ≤ B
  | .ok L => ∀ t ∈ L, t.line ≤ B
theorem LineLe.mono {B C : Nat} {r : LexR} (h : LineLe B r) (hBC : B ≤ C) : LineLe C r := by
  cases r with
  | err a b e => exact Nat.le_trans h hBC
  | ok L => exact fun t ht => Nat.le_trans (h t ht) hBC
theorem LineLe.cons {B : Nat} {r : LexR} {t : Tok} (h : LineLe B r) (ht : t.line ≤ B) : LineLe B (r.cons t) := by
  cases r with
  | err a b e => exact h
  | ok L =>
    intro u hu
    rcases List.mem_cons.1 hu with rfl | hu
    · exact ht
    · exact h u hu
theorem lex_line : ∀ (n : Nat) (s : List UInt8) (line col : Nat) (rem : Bool), s.length ≤ n → LineLe (line + s.length) (lexF s line col rem) := by
  intro n
  induction n with
  | zero =>
    intro s line col rem hn
    obtain rfl : s = [] := List.length_eq_zero_iff.1 (by omega)
    rw [lexF_nil]
    intro t ht
    have : t = ⟨3, [], 0, line, col⟩ := by simpa using ht
    rw [this]; simp
  | succ n ih =>
    intro s line col rem hn
    cases s with
    | nil =>
      rw [lexF_nil]
      intro t ht
      have : t = ⟨3, [], 0, line, col⟩ := by simpa using ht
      rw [this]; simp
    | cons c r =>
      have hr : r.length ≤ n := by simpa using hn
      simp only [List.length_cons]
      by_cases hp : pointL (c :: r) = 0
      · rw [lexF_bad hp]
        exact Nat.le_add_right _ _
      · by_cases h10 : c.toNat = 10
        · rw [lexF_feed h10]
          exact (ih r _ _ _ hr).mono (by omega)
        · by_cases hs : rem = true ∨ c.toNat = 32 ∨ c.toNat = 9 ∨ c.toNat = 13 ∨ c.toNat = 35
          · obtain ⟨k, hk, hkl, _⟩ := point_take hp
            have hl : ((c :: r).drop (pointL (c :: r))).length ≤ r.length := by rw [hk, List.drop_succ_cons, List.length_drop]; omega
            rw [lexF_skip hp h10 hs]
            exact (ih _ _ _ _ (by omega)).mono (by omega)
          · have hrem : rem = false := by cases rem; rfl; exact absurd (.inl rfl) hs
            subst hrem
            have hs' : ¬ (c.toNat = 32 ∨ c.toNat = 9 ∨ c.toNat = 13 ∨ c.toNat = 35) := fun h => hs (.inr h)
            by_cases h58 : c.toNat = 58
            · rw [lexF_colon h58]
              exact ((ih r _ _ _ hr).mono (by omega)).cons (Nat.le_add_right _ _)
            · by_cases hb : begB (c :: r) = true
              · rw [lexF_run hb]
                unfold runR
                have hl := dropWhile_le anB r
                split
                · exact ((ih _ _ _ _ (by omega)).mono (by omega)).cons (Nat.le_add_right _ _)
                · exact Nat.le_add_right _ _
              · rw [lexF_none hp h10 hs' h58 (by simpa using hb)]
                exact Nat.le_add_right _ _
/-- The three texts' tokens. -/
theorem lines_ok {s t note : List UInt8} {n : Nat} {l : List Tok} {e : Tok} (hn : ValN note n) (hs : s.length ≤ 3000) (ht : t.length ≤ 3000) (hno : note.length ≤ 100) (h : lexT s = .ok (l ++ [e])) :
    lexT (s ++ [32, 35] ++ note ++ [10] ++ t) = ((lexT t).shift (1 + feeds s)).pre l := by
  have e1 : s ++ [32, 35] ++ note ++ [10] ++ t = s ++ (32 :: 35 :: note ++ 10 :: t) := by simp
  have hl : (s ++ (32 :: 35 :: note ++ 10 :: t)).length ≤ 1048576 := by simp; omega
  unfold lexT at h ⊢
  rw [if_neg (by omega)] at h
  rw [e1, if_neg (by omega), if_neg (by omega)]
  exact lex_lines hn h
end Go.Proofs.YtidpenifabojnaaDoor
