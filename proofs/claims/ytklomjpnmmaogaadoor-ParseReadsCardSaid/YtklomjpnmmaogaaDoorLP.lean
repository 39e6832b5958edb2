/- Laws of the tokens, plain: texts one behind the other, remarks, what is joined. -/
import Derived.Test.YtklomjpnmmaogaaDoorLA
namespace Go.Proofs.YtklomjpnmmaogaaDoor
open Go Go.RowKit
set_option linter.unusedVariables false
set_option linter.unusedSimpArgs false
set_option maxRecDepth 100000

theorem cont_app {l x : List UInt8} {a b : Nat} (h : contL l a b = true) : contL (l ++ x) a b = true := by
  cases l with
  | nil => simp [contL] at h
  | cons c r => exact h
theorem cont_len {l : List UInt8} {a b k : Nat} (h : contL (l.drop k) a b = true) : k < l.length := by
  by_cases hk : k < l.length
  · exact hk
  · rw [List.drop_eq_nil_of_le (by omega)] at h
    simp [contL] at h
theorem cont_app_at {l x : List UInt8} {a b k : Nat} (h : contL (l.drop k) a b = true) : contL ((l ++ x).drop k) a b = true := by
  rw [List.drop_append_of_le_length (Nat.le_of_lt (cont_len h))]
  exact cont_app h
theorem point_app {c : UInt8} {r x : List UInt8} (h : ¬ pointL (c :: r) = 0) : pointL (c :: r ++ x) = pointL (c :: r) := by
  change ¬ pointC c r = 0 at h
  change pointC c (r ++ x) = pointC c r
  unfold pointC at h ⊢
  by_cases h0 : c.toNat < 128
  · rw [if_pos h0, if_pos h0]
  · rw [if_neg h0, if_neg h0]
    rw [if_neg h0] at h
    by_cases h1 : 194 ≤ c.toNat ∧ c.toNat ≤ 223
    · rw [if_pos h1, if_pos h1]
      rw [if_pos h1] at h
      by_cases q : contL r 128 191 = true
      · rw [if_pos q, if_pos (cont_app q)]
      · rw [if_neg q] at h; exact absurd rfl h
    · rw [if_neg h1, if_neg h1]
      rw [if_neg h1] at h
      by_cases h2 : 224 ≤ c.toNat ∧ c.toNat ≤ 239
      · rw [if_pos h2, if_pos h2]
        rw [if_pos h2] at h
        by_cases q : contL r (if c.toNat = 224 then 160 else 128) (if c.toNat = 237 then 159 else 191) = true ∧ contL (r.drop 1) 128 191 = true
        · rw [if_pos q, if_pos ⟨cont_app q.1, cont_app_at q.2⟩]
        · rw [if_neg q] at h; exact absurd rfl h
      · rw [if_neg h2, if_neg h2]
        rw [if_neg h2] at h
        by_cases h3 : 240 ≤ c.toNat ∧ c.toNat ≤ 244
        · rw [if_pos h3, if_pos h3]
          rw [if_pos h3] at h
          by_cases q : contL r (if c.toNat = 240 then 144 else 128) (if c.toNat = 244 then 143 else 191) = true ∧ contL (r.drop 1) 128 191 = true ∧ contL (r.drop 2) 128 191 = true
          · rw [if_pos q, if_pos ⟨cont_app q.1, cont_app_at q.2.1, cont_app_at q.2.2⟩]
          · rw [if_neg q] at h; exact absurd rfl h
        · rw [if_neg h3, if_neg h3]
/-- A code point lies within the text; none of its bytes but the first is a line's end. -/
theorem cont_head {l : List UInt8} {a b : Nat} (h : contL l a b = true) : ∃ c r, l = c :: r ∧ a ≤ c.toNat ∧ c.toNat ≤ b := by
  cases l with
  | nil => simp [contL] at h
  | cons c r => simp only [contL, Bool.and_eq_true, decide_eq_true_eq] at h; exact ⟨c, r, rfl, h⟩
/-- The bytes of a code point, one by one: none but the first is below 128. -/
theorem point_take {c : UInt8} {r : List UInt8} (h : ¬ pointL (c :: r) = 0) : ∃ k, pointL (c :: r) = k + 1 ∧ k ≤ r.length ∧ ∀ d ∈ r.take k, 128 ≤ d.toNat := by
  change ¬ pointC c r = 0 at h
  change ∃ k, pointC c r = k + 1 ∧ _
  unfold pointC at h ⊢
  by_cases h0 : c.toNat < 128
  · rw [if_pos h0]
    exact ⟨0, rfl, by omega, by simp⟩
  · rw [if_neg h0]
    rw [if_neg h0] at h
    by_cases h1 : 194 ≤ c.toNat ∧ c.toNat ≤ 223
    · rw [if_pos h1]
      rw [if_pos h1] at h
      by_cases q : contL r 128 191 = true
      · rw [if_pos q]
        obtain ⟨d, l, rfl, h5, h6⟩ := cont_head q
        exact ⟨1, rfl, by simp, by simp; omega⟩
      · rw [if_neg q] at h; exact absurd rfl h
    · rw [if_neg h1]
      rw [if_neg h1] at h
      by_cases h2 : 224 ≤ c.toNat ∧ c.toNat ≤ 239
      · rw [if_pos h2]
        rw [if_pos h2] at h
        by_cases q : contL r (if c.toNat = 224 then 160 else 128) (if c.toNat = 237 then 159 else 191) = true ∧ contL (r.drop 1) 128 191 = true
        · rw [if_pos q]
          obtain ⟨q1, q2⟩ := q
          obtain ⟨d, l, rfl, h5, h6⟩ := cont_head q1
          obtain ⟨d2, l2, e2, h7, h8⟩ := cont_head q2
          simp only [List.drop_succ_cons, List.drop_zero] at e2
          subst e2
          refine ⟨2, rfl, by simp, ?_⟩
          simp only [List.take_succ_cons, List.take_zero, List.mem_cons, List.not_mem_nil, or_false, forall_eq_or_imp, forall_eq]
          split at h5 <;> omega
        · rw [if_neg q] at h; exact absurd rfl h
      · rw [if_neg h2]
        rw [if_neg h2] at h
        by_cases h3 : 240 ≤ c.toNat ∧ c.toNat ≤ 244
        · rw [if_pos h3]
          rw [if_pos h3] at h
          by_cases q : contL r (if c.toNat = 240 then 144 else 128) (if c.toNat = 244 then 143 else 191) = true ∧ contL (r.drop 1) 128 191 = true ∧ contL (r.drop 2) 128 191 = true
          · rw [if_pos q]
            obtain ⟨q1, q2, q3⟩ := q
            obtain ⟨d, l, rfl, h5, h6⟩ := cont_head q1
            obtain ⟨d2, l2, e2, h7, h8⟩ := cont_head q2
            simp only [List.drop_succ_cons, List.drop_zero] at e2
            subst e2
            obtain ⟨d3, l3, e3, h9, h10⟩ := cont_head q3
            simp only [List.drop_succ_cons, List.drop_zero] at e3
            subst e3
            refine ⟨3, rfl, by simp, ?_⟩
            simp only [List.take_succ_cons, List.take_zero, List.mem_cons, List.not_mem_nil, or_false, forall_eq_or_imp, forall_eq]
            split at h5 <;> omega
          · rw [if_neg q] at h; exact absurd rfl h
        · rw [if_neg h3] at h; exact absurd rfl h

/-- How many line ends a text has. -/
def feeds (l : List UInt8) : Nat := l.countP fun c => decide (c.toNat = 10)
theorem feeds_high : ∀ {l : List UInt8}, (∀ d ∈ l, 128 ≤ d.toNat) → feeds l = 0 := fun {l} h => by
  unfold feeds
  rw [List.countP_eq_zero]
  intro d hd
  have := h d hd
  simp; omega
theorem feeds_point {c : UInt8} {r : List UInt8} (h : ¬ pointL (c :: r) = 0) (hc : ¬ c.toNat = 10) : feeds (c :: r) = feeds ((c :: r).drop (pointL (c :: r))) := by
  obtain ⟨k, hk, hl, hh⟩ := point_take h
  rw [hk, List.drop_succ_cons]
  have e : feeds (c :: r) = feeds r := by
    unfold feeds
    rw [List.countP_cons_of_neg (by simpa using hc)]
  rw [e]
  conv => lhs; rw [← List.take_append_drop k r]
  have : feeds (r.take k ++ r.drop k) = feeds (r.take k) + feeds (r.drop k) := by unfold feeds; exact List.countP_append
  rw [this, feeds_high hh, Nat.zero_add]
theorem an_high {c : UInt8} (h : anB c = true) : 48 ≤ c.toNat ∧ c.toNat < 128 := by
  simp only [anB, letB, digB, Bool.or_eq_true, Bool.and_eq_true, decide_eq_true_eq] at h
  omega
theorem mem_takeWhile {α : Type} {p : α → Bool} : ∀ {l : List α} {x : α}, x ∈ l.takeWhile p → p x = true
  | [], x, h => by simp at h
  | a :: l, x, h => by
    rw [List.takeWhile_cons] at h
    split at h
    · next hp =>
      rcases List.mem_cons.1 h with rfl | h
      · exact hp
      · exact mem_takeWhile h
    · simp at h
theorem feeds_run {r : List UInt8} : feeds r = feeds (r.dropWhile anB) := by
  conv => lhs; rw [← List.takeWhile_append_dropWhile (p := anB) (l := r)]
  have : feeds (r.takeWhile anB ++ r.dropWhile anB) = feeds (r.takeWhile anB) + feeds (r.dropWhile anB) := by unfold feeds; exact List.countP_append
  rw [this]
  have h0 : feeds (r.takeWhile anB) = 0 := by
    unfold feeds
    rw [List.countP_eq_zero]
    intro d hd
    have := an_high (mem_takeWhile hd)
    simp; omega
  omega
/-- May this follow a text? No run goes on with it. -/
def Stops (x : List UInt8) : Prop := ∀ c r, x = c :: r → anB c = false
theorem takeWhile_stop {r x : List UInt8} (h : Stops x) : (r ++ x).takeWhile anB = r.takeWhile anB ∧ (r ++ x).dropWhile anB = r.dropWhile anB ++ x := by
  induction r with
  | nil =>
    cases x with
    | nil => exact ⟨rfl, rfl⟩
    | cons c x =>
      have := h c x rfl
      simp only [List.nil_append, List.takeWhile_cons, List.dropWhile_cons, this, List.takeWhile_nil, List.dropWhile_nil]
      exact ⟨rfl, rfl⟩
  | cons c r ih =>
    simp only [List.cons_append, List.takeWhile_cons, List.dropWhile_cons]
    cases hc : anB c
    · exact ⟨rfl, rfl⟩
    · simp only [if_true]
      exact ⟨by rw [ih.1], ih.2⟩
theorem beg_app {c : UInt8} {r x : List UInt8} (h : begB (c :: r) = true) : begB (c :: r ++ x) = true := by
  cases r with
  | nil =>
    simp only [begB, headDig, Bool.and_false, Bool.or_false] at h
    simp only [List.cons_append, begB, h, Bool.true_or]
  | cons d r => exact h
/-- A token that is none of the text's end. -/
def GoodTok (t : Tok) : Prop := (t.kind = 2 ∧ t.text = [58] ∧ t.num = 0) ∨ ∃ c r, t.text = c :: r ∧ begB (c :: r) = true ∧ (∀ d ∈ r, anB d = true) ∧ tokenL (c :: r) = (0, t.kind, t.num)
/-- A run's head is a letter, a digit, or a sign with a digit behind it. -/
theorem beg_take {c : UInt8} {r : List UInt8} (h : begB (c :: r) = true) : begB (c :: r.takeWhile anB) = true := by
  cases r with
  | nil => exact h
  | cons d r =>
    simp only [begB, headDig, Bool.or_eq_true, Bool.and_eq_true] at h ⊢
    rcases h with h | ⟨h1, h2⟩
    · exact .inl h
    · refine .inr ⟨h1, ?_⟩
      have : anB d = true := by simp [anB, h2]
      rw [List.takeWhile_cons, if_pos this]
      exact h2
/-- What stands behind a text whose tokens are these. -/
theorem lex_app : ∀ (n : Nat) (s : List UInt8) (line col : Nat) (rem : Bool) (L : List Tok), s.length ≤ n → lexF s line col rem = .ok L →
    ∃ l line' col' rem', L = l ++ [⟨3, [], 0, line', col'⟩] ∧ line' = line + feeds s ∧ (∀ t ∈ l, GoodTok t) ∧ ∀ x, Stops x → lexF (s ++ x) line col rem = (lexF x line' col' rem').pre l := by
  intro n
  induction n with
  | zero =>
    intro s line col rem L hn h
    obtain rfl : s = [] := List.length_eq_zero_iff.1 (by omega)
    rw [lexF_nil] at h
    injection h with h
    subst h
    exact ⟨[], line, col, rem, rfl, rfl, fun t h => by simp at h, fun x _ => by rw [LexR.pre_nil]; rfl⟩
  | succ n ih =>
    intro s line col rem L hn h
    cases s with
    | nil =>
      rw [lexF_nil] at h
      injection h with h
      subst h
      exact ⟨[], line, col, rem, rfl, rfl, fun t h => by simp at h, fun x _ => by rw [LexR.pre_nil]; rfl⟩
    | cons c r =>
      have hr : r.length ≤ n := by simpa using hn
      by_cases hp : pointL (c :: r) = 0
      · rw [lexF_bad hp] at h
        cases h
      · by_cases h10 : c.toNat = 10
        · rw [lexF_feed h10] at h
          obtain ⟨l, a, b, rm, e1, e2, e3, e4⟩ := ih r _ _ _ L hr h
          refine ⟨l, a, b, rm, e1, ?_, e3, fun x hx => ?_⟩
          · rw [e2]
            unfold feeds
            rw [List.countP_cons_of_pos (by simpa using h10)]
            omega
          · rw [List.cons_append, lexF_feed h10]
            exact e4 x hx
        · by_cases hs : rem = true ∨ c.toNat = 32 ∨ c.toNat = 9 ∨ c.toNat = 13 ∨ c.toNat = 35
          · rw [lexF_skip hp h10 hs] at h
            obtain ⟨k, hk, hkl, _⟩ := point_take hp
            have hl : ((c :: r).drop (pointL (c :: r))).length ≤ n := by
              rw [hk, List.drop_succ_cons, List.length_drop]
              omega
            obtain ⟨l, a, b, rm, e1, e2, e3, e4⟩ := ih _ _ _ _ L hl h
            refine ⟨l, a, b, rm, e1, ?_, e3, fun x hx => ?_⟩
            · rw [e2, feeds_point hp h10]
            · have hp' : ¬ pointL (c :: (r ++ x)) = 0 := by rw [← List.cons_append, point_app hp]; exact hp
              rw [List.cons_append, lexF_skip hp' h10 hs, ← e4 x hx]
              rw [← List.cons_append, point_app hp, List.drop_append_of_le_length (by rw [hk]; simp; omega)]
          · have hrem : rem = false := by cases rem; rfl; exact absurd (.inl rfl) hs
            subst hrem
            have hs' : ¬ (c.toNat = 32 ∨ c.toNat = 9 ∨ c.toNat = 13 ∨ c.toNat = 35) := fun h => hs (.inr h)
            have hfc : feeds (c :: r) = feeds r := by
              unfold feeds
              rw [List.countP_cons_of_neg (by simpa using h10)]
            by_cases h58 : c.toNat = 58
            · rw [lexF_colon h58] at h
              cases hq : lexF r line (col + 1) false with
              | err a b e => rw [hq] at h; cases h
              | ok L' =>
                rw [hq] at h
                injection h with h
                subst h
                obtain ⟨l, a, b, rm, e1, e2, e3, e4⟩ := ih r _ _ _ L' hr hq
                subst e1
                refine ⟨⟨2, [58], 0, line, col⟩ :: l, a, b, rm, rfl, by rw [e2, hfc], fun t ht => ?_, fun x hx => ?_⟩
                · rcases List.mem_cons.1 ht with rfl | ht
                  · exact .inl ⟨rfl, rfl, rfl⟩
                  · exact e3 t ht
                · rw [List.cons_append, lexF_colon h58, e4 x hx]
                  cases lexF x a b rm <;> rfl
            · by_cases hb : begB (c :: r) = true
              · rw [lexF_run hb] at h
                unfold runR at h
                by_cases ht : (tokenL ([c] ++ r.takeWhile anB)).1 = 0
                · rw [if_pos ht] at h
                  have hl : (r.dropWhile anB).length ≤ n := by have := dropWhile_le anB r; omega
                  cases hq : lexF (r.dropWhile anB) line (col + ([c] ++ r.takeWhile anB).length) false with
                  | err a b e => rw [hq] at h; cases h
                  | ok L' =>
                    rw [hq] at h
                    injection h with h
                    subst h
                    obtain ⟨l, a, b, rm, e1, e2, e3, e4⟩ := ih _ _ _ _ L' hl hq
                    subst e1
                    refine ⟨_ :: l, a, b, rm, rfl, by rw [e2, hfc, ← feeds_run], fun t h => ?_, fun x hx => ?_⟩
                    · rcases List.mem_cons.1 h with rfl | h
                      · refine .inr ⟨c, r.takeWhile anB, rfl, beg_take hb, fun d hd => mem_takeWhile hd, ?_⟩
                        exact Prod.ext ht rfl
                      · exact e3 t h
                    · obtain ⟨t1, t2⟩ := takeWhile_stop (r := r) hx
                      rw [List.cons_append, lexF_run (by rw [← List.cons_append]; exact beg_app hb)]
                      unfold runR
                      rw [t1, t2, if_pos ht, e4 x hx]
                      cases lexF x a b rm <;> rfl
                · rw [if_neg ht] at h
                  cases h
              · rw [lexF_none hp h10 hs' h58 (by simpa using hb)] at h
                cases h
/-- The tokens' places, so many lines farther. -/
def LexR.shift (k : Nat) : LexR → LexR
  | .err a b e => .err (a + k) b e
  | .ok l => .ok (l.map fun t => { t with line := t.line + k })
theorem lex_shift (k : Nat) : ∀ (n : Nat) (s : List UInt8) (line col : Nat) (rem : Bool), s.length ≤ n → lexF s (line + k) col rem = (lexF s line col rem).shift k := by
  intro n
  induction n with
  | zero =>
    intro s line col rem hn
    obtain rfl : s = [] := List.length_eq_zero_iff.1 (by omega)
    rfl
  | succ n ih =>
    intro s line col rem hn
    cases s with
    | nil => rfl
    | cons c r =>
      have hr : r.length ≤ n := by simpa using hn
      by_cases hp : pointL (c :: r) = 0
      · rw [lexF_bad hp, lexF_bad hp]; rfl
      · by_cases h10 : c.toNat = 10
        · rw [lexF_feed h10, lexF_feed h10, ← ih r _ _ _ hr, Nat.add_right_comm]
        · by_cases hs : rem = true ∨ c.toNat = 32 ∨ c.toNat = 9 ∨ c.toNat = 13 ∨ c.toNat = 35
          · obtain ⟨k', hk, hkl, _⟩ := point_take hp
            rw [lexF_skip hp h10 hs, lexF_skip hp h10 hs, ih _ _ _ _ (by rw [hk, List.drop_succ_cons, List.length_drop]; omega)]
          · have hrem : rem = false := by cases rem; rfl; exact absurd (.inl rfl) hs
            subst hrem
            have hs' : ¬ (c.toNat = 32 ∨ c.toNat = 9 ∨ c.toNat = 13 ∨ c.toNat = 35) := fun h => hs (.inr h)
            by_cases h58 : c.toNat = 58
            · rw [lexF_colon h58, lexF_colon h58, ih r _ _ _ hr]
              cases lexF r line (col + 1) false <;> rfl
            · by_cases hb : begB (c :: r) = true
              · rw [lexF_run hb, lexF_run hb]
                unfold runR
                split
                · rw [ih _ _ _ _ (by have := dropWhile_le anB r; omega)]
                  cases lexF (r.dropWhile anB) line (col + ([c] ++ r.takeWhile anB).length) false <;> rfl
                · rfl
              · rw [lexF_none hp h10 hs' h58 (by simpa using hb), lexF_none hp h10 hs' h58 (by simpa using hb)]; rfl
/-- So many code points, none of them a line's end. -/
inductive ValN : List UInt8 → Nat → Prop where
  | nil : ValN [] 0
  | cons {c : UInt8} {r : List UInt8} {n : Nat} (hp : ¬ pointL (c :: r) = 0) (hc : ¬ c.toNat = 10) (h : ValN ((c :: r).drop (pointL (c :: r))) n) : ValN (c :: r) (n + 1)
/-- A remark counts one for each code point. -/
theorem lex_rem {s : List UInt8} {n : Nat} (h : ValN s n) : ∀ (x : List UInt8) (line col : Nat), lexF (s ++ x) line col true = lexF x line (col + n) true := by
  induction h with
  | nil => intro x line col; rfl
  | @cons c r n hp hc h ih =>
    intro x line col
    obtain ⟨k, hk, hkl, _⟩ := point_take hp
    have hp' : ¬ pointL (c :: (r ++ x)) = 0 := by rw [← List.cons_append, point_app hp]; exact hp
    rw [List.cons_append, lexF_skip hp' hc (.inl rfl), ← List.cons_append, point_app hp, List.drop_append_of_le_length (by rw [hk]; simp; omega)]
    simp only [Bool.true_or]
    rw [ih x line (col + 1)]
    rw [show col + 1 + n = col + (n + 1) by omega]
theorem val_app {s t : List UInt8} {n m : Nat} (h : ValN s n) (k : ValN t m) : ValN (s ++ t) (n + m) := by
  induction h with
  | nil => rw [Nat.zero_add]; exact k
  | @cons c r n hp hc h ih =>
    obtain ⟨j, hk, hkl, _⟩ := point_take hp
    rw [show n + 1 + m = n + m + 1 by omega, List.cons_append]
    refine .cons (by rw [← List.cons_append, point_app hp]; exact hp) hc ?_
    rw [← List.cons_append, point_app hp, List.drop_append_of_le_length (by rw [hk]; simp; omega)]
    exact ih
/-- A remark of so many code points, and nothing else. -/
theorem lex_remark {s : List UInt8} {n : Nat} (h : ValN s n) (line col : Nat) (rem : Bool) (x : List UInt8) : lexF (35 :: s ++ x) line col rem = lexF x line (col + 1 + n) true := by
  rw [List.cons_append, lexF_skip (c := 35) (by rw [point_ascii (by decide)]; decide) (by decide) (.inr (.inr (.inr (.inr (by decide)))))]
  rw [point_ascii (by decide)]
  simp only [List.drop_succ_cons, List.drop_zero]
  rw [show (rem || decide ((35 : UInt8).toNat = 35)) = true by cases rem <;> decide]
  exact lex_rem h x line (col + 1)
/-- A text, a remark behind it, a line's end, and another text. -/
theorem lex_lines {s t note : List UInt8} {n : Nat} {l : List Tok} {e : Tok} (hn : ValN note n) (h : lexF s 1 1 false = .ok (l ++ [e])) :
    lexF (s ++ (32 :: 35 :: note ++ 10 :: t)) 1 1 false = ((lexF t 1 1 false).shift (1 + feeds s)).pre l := by
  obtain ⟨l', a, b, rm, e1, e2, _, e4⟩ := lex_app s.length s 1 1 false _ (Nat.le_refl _) h
  obtain ⟨rfl, _⟩ := List.append_inj' e1 rfl
  rw [e4 _ (fun c r hc => by rw [List.cons_append] at hc; injection hc with hc _; subst hc; decide)]
  rw [List.cons_append, lexF_skip (c := 32) (by rw [point_ascii (by decide)]; decide) (by decide) (.inr (.inl (by decide))), point_ascii (by decide)]
  simp only [List.drop_succ_cons, List.drop_zero]
  rw [lex_remark hn, lexF_feed (by decide), e2]
  rw [← lex_shift (1 + feeds s) t.length t 1 1 false (Nat.le_refl _)]
  rw [show 1 + feeds s + 1 = 1 + (1 + feeds s) by omega]
theorem take_all {p : UInt8 → Bool} : ∀ {r : List UInt8}, (∀ d ∈ r, p d = true) → r.takeWhile p = r ∧ r.dropWhile p = []
  | [], _ => ⟨rfl, rfl⟩
  | c :: r, h => by
    obtain ⟨h1, h2⟩ := take_all (r := r) (fun d hd => h d (by simp [hd]))
    rw [List.takeWhile_cons, List.dropWhile_cons, if_pos (h c (by simp)), if_pos (h c (by simp)), h1, h2]
    exact ⟨rfl, rfl⟩
/-- A token but for its place. -/
def Tok.bare (t : Tok) : Int × List UInt8 × Int := (t.kind, t.text, t.num)
theorem lex_one {t : Tok} (ht : GoodTok t) (x : List UInt8) (hx : Stops x) (line col : Nat) : ∃ col', lexF (t.text ++ x) line col false = (lexF x line col' false).cons { t with line := line, col := col } := by
  rcases ht with ⟨h1, h2, h3⟩ | ⟨c, r, h1, h2, h3, h4⟩
  · rw [h2]
    refine ⟨col + 1, ?_⟩
    rw [List.singleton_append, lexF_colon (by decide), ← h1, ← h2, ← h3]
  · rw [h1]
    refine ⟨col + (c :: r).length, ?_⟩
    obtain ⟨t1, t2⟩ := takeWhile_stop (r := r) hx
    obtain ⟨e1, e2⟩ := take_all h3
    rw [List.cons_append, lexF_run (by rw [← List.cons_append]; exact beg_app h2)]
    unfold runR
    rw [t1, t2, e1, e2]
    simp only [List.singleton_append, h4, List.nil_append]
    rw [if_pos trivial]
/-- The texts of tokens, a blank between every two. -/
def joinT : List Tok → List UInt8
  | [] => []
  | [t] => t.text
  | t :: u :: r => t.text ++ 32 :: joinT (u :: r)
theorem lex_join : ∀ (l : List Tok) (line col : Nat), (∀ t ∈ l, GoodTok t) → ∃ l' a b, lexF (joinT l) line col false = .ok (l' ++ [⟨3, [], 0, a, b⟩]) ∧ l'.map Tok.bare = l.map Tok.bare
  | [], line, col, _ => ⟨[], line, col, rfl, rfl⟩
  | [t], line, col, h => by
    obtain ⟨c', e⟩ := lex_one (h t (by simp)) [] (fun c r h => by cases h) line col
    rw [List.append_nil] at e
    exact ⟨[{ t with line := line, col := col }], line, c', by show lexF t.text line col false = _; rw [e]; rfl, rfl⟩
  | t :: u :: r, line, col, h => by
    obtain ⟨c', e⟩ := lex_one (h t (by simp)) (32 :: joinT (u :: r)) (fun c x hc => by injection hc with hc _; subst hc; decide) line col
    obtain ⟨l', a, b, e1, e2⟩ := lex_join (u :: r) line (c' + 1) (fun t ht => h t (by simp [ht]))
    refine ⟨{ t with line := line, col := col } :: l', a, b, ?_, ?_⟩
    · show lexF (t.text ++ 32 :: joinT (u :: r)) line col false = _
      rw [e, lexF_skip (c := 32) (by rw [point_ascii (by decide)]; decide) (by decide) (.inr (.inl (by decide))), point_ascii (by decide)]
      simp only [List.drop_succ_cons, List.drop_zero]
      rw [show (false || decide ((32 : UInt8).toNat = 35)) = false by decide, e1]
      rfl
    · simp only [List.map_cons, e2]
      rfl
end Go.Proofs.YtklomjpnmmaogaaDoor
