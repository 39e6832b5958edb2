/- Whatever is parsed may be an instance; a place and an error else. Plain. -/
import Derived.Test.YtklomjpnmmaogaaDoorPE
import Derived.Test.YtklomjpnmmaogaaDoorLQ
import Derived.Test.YtklomjpnmmaogaaDoorIC
namespace Go.Proofs.YtklomjpnmmaogaaDoor
open Go Go.RowKit
set_option linter.unusedVariables false
set_option linter.unusedSimpArgs false
set_option maxRecDepth 100000

/-- Tokens whose places are such. -/
def TQ (Q : Nat → Nat → Prop) (r : List Tok) : Prop := EndsL r ∧ ∀ t ∈ r, Q t.line t.col
def PR.Good {α : Type} (Q : Nat → Nat → Prop) (P : α → Prop) : PR α → Prop
  | .bad a b e => Q a b ∧ ¬ e = 0
  | .ok x r => P x ∧ TQ Q r
section
variable {Q : Nat → Nat → Prop} {α β : Type}
theorem TQ.tail {l : List Tok} (h : TQ Q l) (hk : ¬ (headT l).kind = 3) : TQ Q l.tail := ⟨h.1.tail hk, fun t ht => h.2 t (List.mem_of_mem_tail ht)⟩
theorem TQ.head {l : List Tok} (h : TQ Q l) : Q (headT l).line (headT l).col := by
  cases l with
  | nil => exact h.1.elim
  | cons t r => exact h.2 t (by simp)
theorem good_fail {P : α → Prop} {l : List Tok} {e : Int} (h : TQ Q l) (he : ¬ e = 0) : (failP l e : PR α).Good Q P := ⟨h.head, he⟩
theorem good_bind {P : α → Prop} {P' : β → Prop} {x : PR α} {f : α → List Tok → PR β} (h : x.Good Q P) (k : ∀ a r, P a → TQ Q r → (f a r).Good Q P') : (x.bind f).Good Q P' := by
  cases x with
  | bad a b e => exact h
  | ok a r => exact k a r h.1 h.2
theorem good_num {lo hi : Int} {l : List Tok} (h : TQ Q l) : (numP lo hi l).Good Q (fun v => lo ≤ v ∧ v ≤ hi) := by
  unfold numP
  split
  · rename_i hk
    split
    · exact good_fail h (by decide)
    · rename_i h2
      exact ⟨by omega, h.tail (by omega)⟩
  · exact good_fail h (by decide)
theorem is_kind {s : List UInt8} {l : List Tok} (h : isP s l = true) : (headT l).kind = 0 := by
  unfold isP at h
  simp only [Bool.and_eq_true, decide_eq_true_eq] at h
  exact h.1
theorem good_word {s : List UInt8} {l : List Tok} (h : TQ Q l) : (wordP s l).Good Q (fun _ => True) := by
  unfold wordP
  split
  · rename_i hk
    exact ⟨trivial, h.tail (by rw [is_kind hk]; decide)⟩
  · exact good_fail h (by decide)
theorem good_take {k : Int} {l : List Tok} (h : TQ Q l) (hk3 : ¬ k = 3) : (takeP k l).Good Q (fun _ => True) := by
  unfold takeP
  split
  · exact ⟨trivial, h.tail (by omega)⟩
  · exact good_fail h (by decide)
def okN (x : Int) : Prop := 0 ≤ x ∧ x ≤ 2147483648
def RowG (K : Int) (n i : Nat) (r : List Int) : Prop := r.length = n ∧ (∀ x ∈ r, -2147483648 ≤ x ∧ x ≤ 2147483648) ∧ (K = 2 → r.getD i 0 = 0)
def SetG (sz : Int) (p : Int × List Int) : Prop := okN p.1 ∧ risesB (-1) sz p.2 = true
theorem mem_snoc {l : List α} {x y : α} (h : y ∈ l ++ [x]) : y ∈ l ∨ y = x := by simpa using h
theorem good_items : ∀ (f : Nat) (acc : List (Int × Int)) (l : List Tok), TQ Q l → acc.length ≤ 4096 → (∀ p ∈ acc, okN p.1 ∧ okN p.2) → (itemsP f acc l).Good Q (fun xs => xs.length ≤ 4096 ∧ ∀ p ∈ xs, okN p.1 ∧ okN p.2)
  | 0, acc, l, h, h1, h2 => ⟨⟨h1, h2⟩, h⟩
  | f + 1, acc, l, h, h1, h2 => by
    rw [itemsP]
    split
    · rename_i hk
      split
      · exact good_fail h (by decide)
      · rename_i hn
        refine good_bind (good_num (h.tail (by rw [is_kind hk]; decide))) fun v r hv hr => ?_
        refine good_bind (good_num hr) fun x r2 hx hr2 => ?_
        refine good_items f _ _ hr2 (by rw [List.length_append]; simp; omega) fun p hp => ?_
        rcases mem_snoc hp with hp | rfl
        · exact h2 p hp
        · exact ⟨hv, hx⟩
    · exact ⟨⟨h1, h2⟩, h⟩
theorem getD_snoc (l : List Int) (v : Int) (i : Nat) : (l ++ [v]).getD i 0 = if i = l.length then v else l.getD i 0 := by
  simp only [List.getD, List.getElem?_append]
  split
  · rw [if_neg (by omega)]
  · rename_i h
    by_cases hi : i = l.length
    · rw [if_pos hi, hi]; simp
    · rw [if_neg hi, List.getElem?_eq_none (by simp; omega), List.getElem?_eq_none (by omega)]
theorem good_row {k : Int} {i : Nat} : ∀ (f c : Nat) (acc : List Int) (l : List Tok), TQ Q l → acc.length = c → (∀ x ∈ acc, -2147483648 ≤ x ∧ x ≤ 2147483648) → (k = 2 → acc.getD i 0 = 0) → (rowP k i f c acc l).Good Q (RowG k (c + f) i)
  | 0, c, acc, l, h, h1, h2, h3 => ⟨⟨h1, h2, h3⟩, h⟩
  | f + 1, c, acc, l, h, h1, h2, h3 => by
    rw [rowP]
    split
    · exact good_fail h (by decide)
    · rename_i hd
      unfold numP
      by_cases hk : (headT l).kind = 1
      · rw [if_pos hk]
        by_cases hn : (headT l).num < -2147483648 ∨ 2147483648 < (headT l).num
        · rw [if_pos hn]; exact good_fail h (by decide)
        · rw [if_neg hn, PR.bind_ok, show c + (f + 1) = (c + 1) + f by omega]
          refine good_row f (c + 1) _ _ (h.tail (by omega)) (by rw [List.length_append]; simp; omega) (fun x hx => ?_) (fun h2k => ?_)
          · rcases mem_snoc hx with hx | rfl
            · exact h2 x hx
            · omega
          · rw [getD_snoc]
            split
            · rename_i hic
              simp only [diagP, Bool.and_eq_true, decide_eq_true_eq] at hd
              omega
            · exact h3 h2k
      · rw [if_neg hk]; exact good_fail h (by decide)
theorem good_rows {k : Int} {n : Nat} : ∀ (f i : Nat) (acc : List (List Int)) (l : List Tok), TQ Q l → acc.length = i → (∀ (j : Nat) (r : List Int), acc[j]? = some r → RowG k n j r) → (rowsP k n f i acc l).Good Q (fun rs => rs.length = i + f ∧ ∀ (j : Nat) (r : List Int), rs[j]? = some r → RowG k n j r)
  | 0, i, acc, l, h, h1, h2 => ⟨⟨h1, h2⟩, h⟩
  | f + 1, i, acc, l, h, h1, h2 => by
    rw [rowsP, show i + (f + 1) = (i + 1) + f by omega]
    refine good_bind (good_word h) fun _ r _ hr => ?_
    refine good_bind (P := RowG k n i) (by have := good_row (k := k) (i := i) n 0 [] r hr rfl (by simp) (by simp); rwa [Nat.zero_add] at this) fun row r2 hrow hr2 => ?_
    refine good_rows f (i + 1) _ _ hr2 (by rw [List.length_append]; simp; omega) fun j r hj => ?_
    by_cases hjl : j < acc.length
    · rw [List.getElem?_append_left hjl] at hj
      exact h2 j r hj
    · have hlt := (List.getElem?_eq_some_iff.1 hj).1
      rw [List.length_append] at hlt
      simp at hlt
      have : j = acc.length := by omega
      subst this
      rw [List.getElem?_append_right (Nat.le_refl _)] at hj
      simp at hj
      subst hj
      rw [h1]; exact hrow
theorem prises_snoc : ∀ (l : List Int) (last size e : Int), risesB last size l = true → (∀ x ∈ l, x < e) → last < e → e < size → risesB last size (l ++ [e]) = true
  | [], last, size, e, _, _, h1, h2 => by simp [risesB]; omega
  | y :: l, last, size, e, h, hx, h1, h2 => by
    simp [risesB] at h
    obtain ⟨h3, h4⟩ := h
    simp [risesB]
    exact ⟨h3, prises_snoc l y size e h4 (fun x hx' => hx x (by simp [hx'])) (hx y (by simp)) h2⟩
theorem good_elems {size : Int} : ∀ (f : Nat) (last : Int) (acc : List Int) (l : List Tok), TQ Q l → risesB (-1) size acc = true → (∀ x ∈ acc, x ≤ last) → -1 ≤ last → (elemsP size f last acc l).Good Q (fun es => risesB (-1) size es = true)
  | 0, last, acc, l, h, h1, h2, h3 => ⟨h1, h⟩
  | f + 1, last, acc, l, h, h1, h2, h3 => by
    rw [elemsP]
    split
    · rename_i hk
      split
      · exact good_fail h (by decide)
      · rename_i hn
        refine good_elems f _ _ _ (h.tail (by omega)) (prises_snoc _ _ _ _ h1 (fun x hx => by have := h2 x hx; omega) (by omega) (by omega)) (fun x hx => ?_) (by omega)
        rcases mem_snoc hx with hx | rfl
        · have := h2 x hx; omega
        · exact Int.le_refl _
    · exact ⟨h1, h⟩
theorem good_sets {size : Int} : ∀ (f : Nat) (acc : List (Int × List Int)) (l : List Tok), TQ Q l → acc.length ≤ 4096 → (∀ p ∈ acc, SetG size p) → (setsP size f acc l).Good Q (fun xs => xs.length ≤ 4096 ∧ ∀ p ∈ xs, SetG size p)
  | 0, acc, l, h, h1, h2 => ⟨⟨h1, h2⟩, h⟩
  | f + 1, acc, l, h, h1, h2 => by
    rw [setsP]
    split
    · rename_i hk
      split
      · exact good_fail h (by decide)
      · rename_i hn
        refine good_bind (good_num (h.tail (by rw [is_kind hk]; decide))) fun v r hv hr => ?_
        refine good_bind (good_take hr (by decide)) fun _ r2 _ hr2 => ?_
        refine good_bind (good_elems r2.length (-1) [] r2 hr2 rfl (by simp) (by omega)) fun es r3 hes hr3 => ?_
        refine good_sets f _ _ hr3 (by rw [List.length_append]; simp; omega) fun p hp => ?_
        rcases mem_snoc hp with hp | rfl
        · exact h2 p hp
        · exact ⟨hv, hes⟩
    · exact ⟨⟨h1, h2⟩, h⟩
/-- What an instance may be. -/
def MayD (I : IData) : Prop :=
  (I.kind = 0 ∧ okN I.cap ∧ I.items.length ≤ 4096 ∧ (∀ p ∈ I.items, okN p.1 ∧ okN p.2) ∧ I.cost = [] ∧ I.size = 0 ∧ I.sets = []) ∨
  (I.kind = 3 ∧ (0 ≤ I.size ∧ I.size ≤ 4096) ∧ I.cap = 0 ∧ I.items = [] ∧ I.cost = [] ∧ I.sets.length ≤ 4096 ∧ ∀ p ∈ I.sets, SetG I.size p) ∨
  ((I.kind = 1 ∨ I.kind = 2) ∧ I.cap = 0 ∧ I.items = [] ∧ I.size = 0 ∧ I.sets = [] ∧ (1 ≤ I.cost.length ∧ I.cost.length ≤ 64) ∧ ∀ (j : Nat) (r : List Int), I.cost[j]? = some r → RowG I.kind I.cost.length j r)
theorem good_knap {l : List Tok} (h : TQ Q l) : (knapP l).Good Q MayD := by
  refine good_bind (good_word h) fun _ r _ hr => ?_
  refine good_bind (good_num hr) fun c r2 hc hr2 => ?_
  refine good_bind (good_items r2.length [] r2 hr2 (by simp) (by simp)) fun xs r3 hx hr3 => ?_
  exact ⟨.inl ⟨rfl, hc, hx.1, hx.2, rfl, rfl, rfl⟩, hr3⟩
theorem good_square {k : Int} {l : List Tok} (h : TQ Q l) (hk : k = 1 ∨ k = 2) : (squareP k l).Good Q MayD := by
  refine good_bind (good_num h) fun n r hn hr => ?_
  refine good_bind (good_rows n.toNat 0 [] r hr rfl (by simp)) fun rs r2 hx hr2 => ?_
  have hl : rs.length = n.toNat := by rw [hx.1, Nat.zero_add]
  refine ⟨.inr (.inr ⟨hk, rfl, rfl, rfl, rfl, ?_, ?_⟩), hr2⟩
  · show 1 ≤ rs.length ∧ rs.length ≤ 64
    omega
  · show ∀ (j : Nat) (r : List Int), rs[j]? = some r → RowG k rs.length j r
    rw [hl]; exact hx.2
theorem good_cover {l : List Tok} (h : TQ Q l) : (coverP l).Good Q MayD := by
  refine good_bind (good_num h) fun n r hn hr => ?_
  refine good_bind (good_sets r.length [] r hr (by simp) (by simp)) fun ss r2 hx hr2 => ?_
  exact ⟨.inr (.inl ⟨rfl, hn, rfl, rfl, rfl, hx.1, hx.2⟩), hr2⟩
theorem good_whole {l : List Tok} (h : TQ Q l) : (wholeP l).Good Q MayD := by
  have ht : ∀ s, isP s l = true → TQ Q l.tail := fun s hk => h.tail (by rw [is_kind hk]; decide)
  refine good_bind (P := MayD) ?_ fun x r hx hr => ?_
  · unfold bodyP
    split
    · exact good_knap (ht _ (by assumption))
    · split
      · exact good_square (ht _ (by assumption)) (.inl rfl)
      · split
        · exact good_square (ht _ (by assumption)) (.inr rfl)
        · split
          · exact good_cover (ht _ (by assumption))
          · exact good_fail h (by decide)
  · split
    · exact ⟨hx, hr⟩
    · exact good_fail hr (by decide)
end
theorem row_mem {K : Int} {n : Nat} {rows : List (List Int)} (h : ∀ (j : Nat) (r : List Int), rows[j]? = some r → RowG K n j r) {r : List Int} (hr : r ∈ rows) : ∃ j, RowG K n j r := by
  obtain ⟨j, hj⟩ := List.getElem?_of_mem hr
  exact ⟨j, h j r hj⟩
theorem prises_in {size : Int} : ∀ (l : List Int) (last : Int), -1 ≤ last → risesB last size l = true → ∀ x ∈ l, 0 ≤ x ∧ x < size
  | [], _, _, _, x, hx => by simp at hx
  | y :: l, last, h0, h, x, hx => by
    simp [risesB] at h
    obtain ⟨h3, h4⟩ := h
    rcases List.mem_cons.1 hx with rfl | hx
    · omega
    · exact prises_in l y (by omega) h4 x hx
/-- Its numbers have their places. -/
theorem may_in {I : IData} (h : MayD I) : IIn I := by
  rcases h with ⟨h1, h2, h3, h4, h5, h6, h7⟩ | ⟨h1, h2, h3, h4, h5, h6, h7⟩ | ⟨h1, h2, h3, h4, h5, h6, h7⟩
  · refine ⟨by unfold InI; omega, by unfold InI; unfold okN at h2; omega, by unfold InI; omega, fun p hp => ?_, by rw [h5]; simp, by rw [h7]; simp⟩
    have := h4 p hp
    unfold okN at this
    unfold InI; omega
  · refine ⟨by unfold InI; omega, by unfold InI; omega, by unfold InI; omega, by rw [h4]; simp, by rw [h5]; simp, fun p hp => ?_⟩
    have hs := h7 p hp
    refine ⟨by have := hs.1; unfold okN at this; unfold InI; omega, fun x hx => ?_⟩
    have := prises_in _ _ (by omega) hs.2 x hx
    unfold InI; omega
  · refine ⟨by unfold InI; omega, by unfold InI; omega, by unfold InI; omega, by rw [h3]; simp, fun r hr x hx => ?_, by rw [h5]; simp⟩
    obtain ⟨j, hj⟩ := row_mem h7 hr
    have := hj.2.1 x hx
    unfold InI; omega
/-- Where a text's tokens stand. -/
def PlaceOk (a b : Nat) (T : LexR) : Prop := match T with
  | .err l c e => (a ≤ l ∧ l ≤ b ∧ 1 ≤ c) ∧ ¬ e = 0
  | .ok L => ∀ t ∈ L, a ≤ t.line ∧ t.line ≤ b ∧ 1 ≤ t.col
theorem PlaceOk.mono {a b a' b' : Nat} {T : LexR} (h : PlaceOk a b T) (ha : a' ≤ a) (hb : b ≤ b') : PlaceOk a' b' T := by
  cases T with
  | err l c e => exact ⟨by have := h.1; omega, h.2⟩
  | ok L => exact fun t ht => by have := h t ht; omega
theorem PlaceOk.cons {a b : Nat} {T : LexR} {t : Tok} (h : PlaceOk a b T) (ht : a ≤ t.line ∧ t.line ≤ b ∧ 1 ≤ t.col) : PlaceOk a b (T.cons t) := by
  cases T with
  | err l c e => exact h
  | ok L =>
    intro u hu
    rcases List.mem_cons.1 hu with rfl | hu
    · exact ht
    · exact h u hu
theorem lex_place : ∀ (n : Nat) (s : List UInt8) (line col : Nat) (rem : Bool), s.length ≤ n → 1 ≤ col → PlaceOk line (line + feeds s) (lexF s line col rem) := by
  intro n
  induction n with
  | zero =>
    intro s line col rem hn hc
    obtain rfl : s = [] := List.length_eq_zero_iff.1 (by omega)
    rw [lexF_nil]
    intro t ht
    have : t = ⟨3, [], 0, line, col⟩ := by simpa using ht
    rw [this]; simp; omega
  | succ n ih =>
    intro s line col rem hn hc
    cases s with
    | nil =>
      rw [lexF_nil]
      intro t ht
      have : t = ⟨3, [], 0, line, col⟩ := by simpa using ht
      rw [this]; simp; omega
    | cons c r =>
      have hr : r.length ≤ n := by simpa using hn
      by_cases hp : pointL (c :: r) = 0
      · rw [lexF_bad hp]
        exact ⟨⟨Nat.le_refl _, Nat.le_add_right _ _, hc⟩, by decide⟩
      · by_cases h10 : c.toNat = 10
        · rw [lexF_feed h10]
          have : feeds (c :: r) = feeds r + 1 := by simp [feeds, h10]
          exact (ih r _ _ _ hr (by omega)).mono (by omega) (by omega)
        · have hf0 : feeds (c :: r) = feeds r := by simp [feeds, h10]
          by_cases hs : rem = true ∨ c.toNat = 32 ∨ c.toNat = 9 ∨ c.toNat = 13 ∨ c.toNat = 35
          · obtain ⟨k, hk, hkl, _⟩ := point_take hp
            have hl : ((c :: r).drop (pointL (c :: r))).length ≤ r.length := by rw [hk, List.drop_succ_cons, List.length_drop]; omega
            have hf := feeds_point hp h10
            rw [lexF_skip hp h10 hs, hf]
            exact ih _ _ _ _ (by omega) (by omega) |>.mono (by omega) (by omega)
          · have hrem : rem = false := by cases rem; rfl; exact absurd (.inl rfl) hs
            subst hrem
            have hs' : ¬ (c.toNat = 32 ∨ c.toNat = 9 ∨ c.toNat = 13 ∨ c.toNat = 35) := fun h => hs (.inr h)
            rw [hf0]
            by_cases h58 : c.toNat = 58
            · rw [lexF_colon h58]
              exact (ih r _ _ _ hr (by omega)).cons ⟨Nat.le_refl _, Nat.le_add_right _ _, hc⟩
            · by_cases hb : begB (c :: r) = true
              · rw [lexF_run hb]
                unfold runR
                have hl := dropWhile_le anB r
                rw [feeds_run (r := r)]
                split
                · exact (ih _ _ _ _ (by omega) (by omega)).cons ⟨Nat.le_refl _, Nat.le_add_right _ _, hc⟩
                · exact ⟨⟨Nat.le_refl _, Nat.le_add_right _ _, hc⟩, by assumption⟩
              · rw [lexF_none hp h10 hs' h58 (by simpa using hb)]
                exact ⟨⟨Nat.le_refl _, Nat.le_add_right _ _, hc⟩, by decide⟩
theorem ends_app {l : List Tok} (h : ∀ t ∈ l, ¬ t.kind = 3) {t : Tok} (ht : t.kind = 3) : EndsL (l ++ [t]) := by
  induction l with
  | nil => exact .inl ⟨rfl, ht⟩
  | cons x r ih => exact .inr ⟨h x (by simp), ih fun y hy => h y (by simp [hy])⟩
theorem lexT_ends {s : List UInt8} {L : List Tok} (h : lexT s = .ok L) : EndsL L := by
  obtain ⟨_, _, l, a, b, rfl, hg, _⟩ := lexT_shape h
  exact ends_app (fun t ht => good_kind (hg t ht)) rfl
/-- Whatever is parsed may be; there is either an instance, or a place and an error. -/
theorem parse_good (s : List UInt8) : (∃ a b e, parseT s = .bad a b e ∧ 1 ≤ a ∧ 1 ≤ b ∧ a ≤ 1 + feeds s ∧ ¬ e = 0) ∨ ∃ I, parseT s = .ok I ∧ MayD I := by
  unfold parseT
  have hpl : PlaceOk 1 (1 + feeds s) (lexT s) := by
    unfold lexT
    split
    · exact ⟨⟨Nat.le_refl _, Nat.le_add_right _ _, Nat.le_refl _⟩, by decide⟩
    · exact lex_place _ s 1 1 false (Nat.le_refl _) (Nat.le_refl _)
  cases h : lexT s with
  | err a b e =>
    rw [h] at hpl
    exact .inl ⟨a, b, e, rfl, hpl.1.1, hpl.1.2.2, hpl.1.2.1, hpl.2⟩
  | ok L =>
    rw [h] at hpl
    have hg := good_whole (Q := fun a b => 1 ≤ a ∧ a ≤ 1 + feeds s ∧ 1 ≤ b) (l := L) ⟨lexT_ends h, hpl⟩
    show (∃ a b e, (wholeP L).out = .bad a b e ∧ _) ∨ ∃ I, (wholeP L).out = .ok I ∧ _
    cases hw : wholeP L with
    | bad a b e =>
      rw [hw] at hg
      exact .inl ⟨a, b, e, rfl, hg.1.1, hg.1.2.2, hg.1.2.1, hg.2⟩
    | ok I r =>
      rw [hw] at hg
      exact .inr ⟨I, rfl, hg.1⟩
end Go.Proofs.YtklomjpnmmaogaaDoor
