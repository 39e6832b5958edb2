/- How long tokens are, and what they are joined to, plain. -/
import Derived.Test.YtklomjpnmmaogaaDoorLP
import Derived.Lib.Join
namespace Go.Proofs.YtklomjpnmmaogaaDoor
open Go Go.RowKit
set_option linter.unusedVariables false
set_option linter.unusedSimpArgs false
set_option maxRecDepth 100000

/-- Each text, and one more. -/
def wt : List Tok → Nat
  | [] => 0
  | t :: r => t.text.length + 1 + wt r
theorem wt_app : ∀ (l m : List Tok), wt (l ++ m) = wt l + wt m
  | [], m => by simp [wt]
  | t :: r, m => by simp only [List.cons_append, wt, wt_app r m]; omega
theorem len_wt : ∀ l : List Tok, l.length ≤ wt l
  | [] => Nat.le_refl _
  | t :: r => by
    have := len_wt r
    simp only [wt, List.length_cons]
    omega
theorem take_drop_len (r : List UInt8) : (r.takeWhile anB).length + (r.dropWhile anB).length = r.length := by
  conv => rhs; rw [← List.takeWhile_append_dropWhile (p := anB) (l := r)]
  rw [List.length_append]
theorem lex_wt : ∀ (n : Nat) (s : List UInt8) (line col : Nat) (rem : Bool) (L : List Tok), s.length ≤ n → lexF s line col rem = .ok L → wt L ≤ 2 * s.length + 1 := by
  intro n
  induction n with
  | zero =>
    intro s line col rem L hn h
    obtain rfl : s = [] := List.length_eq_zero_iff.1 (by omega)
    rw [lexF_nil] at h
    injection h with h
    subst h
    simp [wt]
  | succ n ih =>
    intro s line col rem L hn h
    cases s with
    | nil =>
      rw [lexF_nil] at h
      injection h with h
      subst h
      simp [wt]
    | cons c r =>
      have hr : r.length ≤ n := by simpa using hn
      simp only [List.length_cons]
      by_cases hp : pointL (c :: r) = 0
      · rw [lexF_bad hp] at h
        cases h
      · by_cases h10 : c.toNat = 10
        · rw [lexF_feed h10] at h
          have := ih r _ _ _ L hr h
          omega
        · by_cases hs : rem = true ∨ c.toNat = 32 ∨ c.toNat = 9 ∨ c.toNat = 13 ∨ c.toNat = 35
          · rw [lexF_skip hp h10 hs] at h
            obtain ⟨k, hk, hkl, _⟩ := point_take hp
            have hl : ((c :: r).drop (pointL (c :: r))).length ≤ r.length := by
              rw [hk, List.drop_succ_cons, List.length_drop]
              omega
            have := ih _ _ _ _ L (by omega) h
            omega
          · have hrem : rem = false := by cases rem; rfl; exact absurd (.inl rfl) hs
            subst hrem
            have hs' : ¬ (c.toNat = 32 ∨ c.toNat = 9 ∨ c.toNat = 13 ∨ c.toNat = 35) := fun h => hs (.inr h)
            by_cases h58 : c.toNat = 58
            · rw [lexF_colon h58] at h
              cases hq : lexF r line (col + 1) false with
              | err a b e => rw [hq] at h; cases h
              | ok L' =>
                rw [hq] at h
                injection h with h
                subst h
                have := ih r _ _ _ L' hr hq
                simp only [wt, List.length_cons, List.length_nil]
                omega
            · by_cases hb : begB (c :: r) = true
              · rw [lexF_run hb] at h
                unfold runR at h
                by_cases ht : (tokenL ([c] ++ r.takeWhile anB)).1 = 0
                · rw [if_pos ht] at h
                  have hl := take_drop_len r
                  cases hq : lexF (r.dropWhile anB) line (col + ([c] ++ r.takeWhile anB).length) false with
                  | err a b e => rw [hq] at h; cases h
                  | ok L' =>
                    rw [hq] at h
                    injection h with h
                    subst h
                    have := ih _ _ _ _ L' (by omega) hq
                    simp only [wt, List.length_append, List.length_cons, List.length_nil]
                    omega
                · rw [if_neg ht] at h
                  cases h
              · rw [lexF_none hp h10 hs' h58 (by simpa using hb)] at h
                cases h
/-- The texts of the tokens that are none of a text's end. -/
def txts : List Tok → List (List UInt8)
  | [] => []
  | t :: r => if t.kind = 3 then txts r else t.text :: txts r
theorem txts_app : ∀ (l m : List Tok), txts (l ++ m) = txts l ++ txts m
  | [], m => rfl
  | t :: r, m => by
    simp only [List.cons_append, txts, txts_app r m]
    split <;> rfl
theorem txts_len : ∀ l : List Tok, (txts l).length ≤ l.length
  | [] => Nat.le_refl _
  | t :: r => by
    have := txts_len r
    simp only [txts, List.length_cons]
    split
    · omega
    · simp only [List.length_cons]; omega
def joinU (l : List Tok) : List UInt8 := Lib.join (txts l) [32]
theorem join_cons2 (a b : List UInt8) (r : List (List UInt8)) : Lib.join (a :: b :: r) [32] = a ++ 32 :: Lib.join (b :: r) [32] := by
  simp [Lib.join, List.intercalate, List.intersperse]
theorem join_len : ∀ l : List (List UInt8), (Lib.join l [32]).length ≤ (l.map fun x => x.length + 1).sum
  | [] => by simp [Lib.join_nil]
  | [a] => by simp [Lib.join_one]
  | a :: b :: r => by
    have := join_len (b :: r)
    rw [join_cons2]
    simp only [List.length_append, List.length_cons, List.map_cons, List.sum_cons] at this ⊢
    omega
theorem txts_wt : ∀ l : List Tok, ((txts l).map fun x => x.length + 1).sum ≤ wt l
  | [] => Nat.le_refl _
  | t :: r => by
    have := txts_wt r
    simp only [txts, wt]
    split
    · omega
    · simp only [List.map_cons, List.sum_cons]; omega
theorem joinU_len (l : List Tok) : (joinU l).length ≤ wt l := Nat.le_trans (join_len _) (txts_wt l)
theorem token_kind (t : List UInt8) : ¬ (tokenL t).2.1 = 3 := by
  unfold tokenL
  split
  · split <;> decide
  · split
    · decide
    · split
      · show ¬ (1 : Int) = 3; decide
      · decide
theorem good_kind {t : Tok} (h : GoodTok t) : ¬ t.kind = 3 := by
  rcases h with ⟨h, _⟩ | ⟨c, r, _, _, _, h⟩
  · rw [h]; decide
  · have := token_kind (c :: r)
    rw [h] at this
    exact this
theorem good_text {t : Tok} (h : GoodTok t) : t.text ≠ [] := by
  rcases h with ⟨_, h, _⟩ | ⟨c, r, h, _⟩ <;> rw [h] <;> simp
theorem txts_good : ∀ {l : List Tok}, (∀ t ∈ l, GoodTok t) → txts l = l.map Tok.text
  | [], _ => rfl
  | t :: r, h => by
    simp only [txts, List.map_cons]
    rw [if_neg (good_kind (h t (by simp))), txts_good (fun u hu => h u (by simp [hu]))]
theorem join_T : ∀ l : List Tok, Lib.join (l.map Tok.text) [32] = joinT l
  | [] => rfl
  | [t] => by simp [Lib.join_one, joinT]
  | t :: u :: r => by
    have := join_T (u :: r)
    simp only [List.map_cons] at this ⊢
    rw [join_cons2, this]
    rfl
theorem joinU_good {l : List Tok} {line col : Nat} (h : ∀ t ∈ l, GoodTok t) : joinU (l ++ [⟨3, [], 0, line, col⟩]) = joinT l := by
  unfold joinU
  rw [txts_app, txts_good h, ← join_T]
  simp [txts]
/-- As the document joins: a blank ahead of each but the first. -/
def joinS : List UInt8 → List Tok → List UInt8
  | s, [] => s
  | s, t :: r => if t.kind = 3 then joinS s r else joinS ((if s = [] then [] else s ++ [32]) ++ t.text) r
theorem joinS_some : ∀ (l : List Tok) (s : List UInt8), s ≠ [] → (∀ t ∈ l, t.kind = 3 ∨ t.text ≠ []) → joinS s l = s ++ (txts l).foldr (fun x y => 32 :: x ++ y) []
  | [], s, _, _ => by simp [joinS, txts]
  | t :: r, s, hs, h => by
    simp only [joinS, txts]
    by_cases hk : t.kind = 3
    · rw [if_pos hk, if_pos hk, joinS_some r s hs (fun u hu => h u (by simp [hu]))]
    · rw [if_neg hk, if_neg hk, if_neg hs, joinS_some r _ (by simp) (fun u hu => h u (by simp [hu]))]
      simp
theorem join_foldr : ∀ (a : List UInt8) (r : List (List UInt8)), Lib.join (a :: r) [32] = a ++ r.foldr (fun x y => 32 :: x ++ y) []
  | a, [] => by simp [Lib.join_one]
  | a, b :: r => by rw [join_cons2, join_foldr b r]; simp
theorem joinS_U : ∀ (l : List Tok), (∀ t ∈ l, t.kind = 3 ∨ t.text ≠ []) → joinS [] l = joinU l
  | [], _ => rfl
  | t :: r, h => by
    unfold joinU
    simp only [joinS, txts]
    by_cases hk : t.kind = 3
    · rw [if_pos hk, if_pos hk]
      exact joinS_U r (fun u hu => h u (by simp [hu]))
    · rw [if_neg hk, if_neg hk, if_pos trivial, List.nil_append, joinS_some r _ (by rcases h t (by simp) with h | h; exact absurd h hk; exact h) (fun u hu => h u (by simp [hu])), join_foldr]
theorem joinS_app : ∀ (l : List Tok) (s : List UInt8) (t : Tok), joinS s (l ++ [t]) = joinS (joinS s l) [t]
  | [], s, t => rfl
  | u :: r, s, t => by
    simp only [List.cons_append, joinS]
    split
    · exact joinS_app r s t
    · exact joinS_app r _ t
theorem joinS_len : ∀ (l : List Tok) (s : List UInt8), (joinS s l).length ≤ s.length + wt l
  | [], s => by simp [joinS, wt]
  | t :: r, s => by
    simp only [joinS, wt]
    split
    · have := joinS_len r s
      omega
    · have := joinS_len r ((if s = [] then [] else s ++ [32]) ++ t.text)
      rw [List.length_append] at this
      by_cases hs : s = []
      · rw [if_pos hs] at this ⊢
        simp at this ⊢; omega
      · rw [if_neg hs] at this ⊢
        simp at this ⊢; omega
/-- Tokens of a text: those that are good, and its end. -/
theorem lexT_shape {s : List UInt8} {L : List Tok} (h : lexT s = .ok L) : s.length ≤ 1048576 ∧ lexF s 1 1 false = .ok L ∧ ∃ l a b, L = l ++ [⟨3, [], 0, a, b⟩] ∧ (∀ t ∈ l, GoodTok t) ∧ wt L ≤ 2097153 := by
  unfold lexT at h
  by_cases hs : 1048576 < s.length
  · rw [if_pos hs] at h; cases h
  · rw [if_neg hs] at h
    obtain ⟨l, a, b, _, e, _, hg, _⟩ := lex_app s.length s 1 1 false L (Nat.le_refl _) h
    have := lex_wt s.length s 1 1 false L (Nat.le_refl _) h
    exact ⟨by omega, h, l, a, b, e, hg, by omega⟩
/-- The tokens of what is joined are these again, but for their places. -/
theorem lex_back {s : List UInt8} {L : List Tok} (h : lexT s = .ok L) (hl : (joinU L).length ≤ 1048576) : ∃ M, lexT (joinU L) = .ok M ∧ M.map Tok.bare = L.map Tok.bare := by
  obtain ⟨_, _, l, a, b, rfl, hg, _⟩ := lexT_shape h
  rw [joinU_good hg] at hl ⊢
  obtain ⟨l', a', b', e1, e2⟩ := lex_join l 1 1 hg
  refine ⟨l' ++ [⟨3, [], 0, a', b'⟩], ?_, ?_⟩
  · unfold lexT
    rw [if_neg (by omega), e1]
  · rw [List.map_append, List.map_append, e2]
    rfl
end Go.Proofs.YtklomjpnmmaogaaDoor
