/- Plain words for numbers by their digits to the base 65536. -/
namespace Go.Proofs.YtkdklmkcanjjfaaDoor
set_option linter.unusedVariables false
set_option linter.unusedSimpArgs false
set_option maxRecDepth 100000

/-- What digits are worth, the lowest first. -/
def dval : List Nat → Nat
  | [] => 0
  | d :: ds => d + 65536 * dval ds
def Digs (ds : List Nat) : Prop := ∀ d ∈ ds, d < 65536
/-- No nought ahead. -/
def NoLead (ds : List Nat) : Prop := ∀ h : ds ≠ [], ds.getLast h ≠ 0

theorem dval_append (a b : List Nat) : dval (a ++ b) = dval a + 65536 ^ a.length * dval b := by
  induction a with
  | nil => simp [dval]
  | cons d a ih =>
    simp only [List.cons_append, dval, ih, List.length_cons]
    rw [Nat.mul_add, ← Nat.add_assoc, ← Nat.mul_assoc]
    congr 2
    rw [Nat.pow_succ, Nat.mul_comm]
theorem dval_snoc (a : List Nat) (d : Nat) : dval (a ++ [d]) = dval a + 65536 ^ a.length * d := by
  rw [dval_append]; simp [dval]
theorem dval_lt (ds : List Nat) (h : Digs ds) : dval ds < 65536 ^ ds.length := by
  induction ds with
  | nil => simp [dval]
  | cons d ds ih =>
    have h1 := h d (by simp)
    have h2 := ih fun x hx => h x (by simp [hx])
    simp only [dval, List.length_cons, Nat.pow_succ]
    omega
theorem dval_ge (ds : List Nat) (h : NoLead ds) (hne : ds ≠ []) : 65536 ^ (ds.length - 1) ≤ dval ds := by
  have e : ds = ds.dropLast ++ [ds.getLast hne] := (List.dropLast_concat_getLast hne).symm
  have hl := h hne
  have h1 : dval ds = dval ds.dropLast + 65536 ^ ds.dropLast.length * ds.getLast hne := by
    conv => lhs; rw [e]
    exact dval_snoc _ _
  rw [h1, List.length_dropLast]
  have : 65536 ^ (ds.length - 1) * 1 ≤ 65536 ^ (ds.length - 1) * ds.getLast hne := Nat.mul_le_mul_left _ (by omega)
  omega
theorem dval_zero (ds : List Nat) (h : NoLead ds) : dval ds = 0 ↔ ds = [] := by
  constructor
  · intro h0
    by_cases hne : ds = []
    · exact hne
    · have := dval_ge ds h hne
      have : 0 < 65536 ^ (ds.length - 1) := Nat.pow_pos (by omega)
      omega
  · rintro rfl; rfl
theorem dval_len_lt (a b : List Nat) (ha : Digs a) (hb : NoLead b) (h : a.length < b.length) : dval a < dval b := by
  have h1 := dval_lt a ha
  have hne : b ≠ [] := by rintro rfl; simp at h
  have h2 := dval_ge b hb hne
  have : 65536 ^ a.length ≤ 65536 ^ (b.length - 1) := Nat.pow_le_pow_right (by omega) (by omega)
  omega
/-- As many digits as its size asks. -/
theorem len_le (ds : List Nat) (h : NoLead ds) (k : Nat) (hk : dval ds < 65536 ^ k) : ds.length ≤ k := by
  by_cases hne : ds = []
  · simp [hne]
  · have := dval_ge ds h hne
    by_cases hc : ds.length ≤ k
    · exact hc
    · have : 65536 ^ k ≤ 65536 ^ (ds.length - 1) := Nat.pow_le_pow_right (by omega) (by omega)
      omega
theorem dval_split (ds : List Nat) (k : Nat) (hk : k ≤ ds.length) : dval ds = dval (ds.take k) + 65536 ^ k * dval (ds.drop k) := by
  conv => lhs; rw [← List.take_append_drop k ds]
  rw [dval_append, List.length_take, Nat.min_eq_left hk]
theorem digs_take {ds : List Nat} (h : Digs ds) (k : Nat) : Digs (ds.take k) := fun d hd => h d (List.mem_of_mem_take hd)
theorem digs_get {ds : List Nat} (h : Digs ds) (k : Nat) (hk : k < ds.length) : ds[k] < 65536 := h _ (List.getElem_mem hk)
theorem dval_take_succ (ds : List Nat) (k : Nat) (hk : k < ds.length) : dval (ds.take (k + 1)) = dval (ds.take k) + 65536 ^ k * ds[k] := by
  rw [List.take_succ_eq_append_getElem hk, dval_snoc, List.length_take, Nat.min_eq_left (by omega)]
theorem digs_snoc {ds : List Nat} {d : Nat} (h : Digs ds) (hd : d < 65536) : Digs (ds ++ [d]) := by
  intro x hx
  rcases List.mem_append.1 hx with hx | hx
  · exact h x hx
  · simp at hx; omega
/-- The highest place at which two differ tells which one is the greater. -/
theorem dval_cmp (a b : List Nat) (ha : Digs a) (_hb : Digs b) (hl : a.length = b.length) (k : Nat) (hk : k < a.length) (he : a.drop (k + 1) = b.drop (k + 1)) (hlt : a[k] < b[k]'(by omega)) : dval a < dval b := by
  rw [dval_split a (k + 1) (by omega), dval_split b (k + 1) (by omega), he, dval_take_succ a k hk, dval_take_succ b k (by omega)]
  have h1 := dval_lt (a.take k) (digs_take ha k)
  rw [List.length_take, Nat.min_eq_left (by omega)] at h1
  have h2 : 65536 ^ k * (a[k] + 1) ≤ 65536 ^ k * b[k] := Nat.mul_le_mul_left _ hlt
  rw [Nat.mul_add] at h2
  omega
/-- It has at most a hundred digits. -/
def Sm (z : Int) : Prop := z.natAbs < 65536 ^ 100
theorem sm_of {z : Int} (h1 : -1606938044258990275541962092341162602522202993782792835301376 < z) (h2 : z < 1606938044258990275541962092341162602522202993782792835301376) : Sm z := by
  have h3 : z.natAbs < 1606938044258990275541962092341162602522202993782792835301376 := by omega
  have h4 : 1606938044258990275541962092341162602522202993782792835301376 ≤ 65536 ^ 100 := by decide
  exact Nat.lt_of_lt_of_le h3 h4
theorem Sm.len {z : Int} (h : Sm z) {ds : List Nat} (hl : NoLead ds) (hv : dval ds = z.natAbs) : ds.length ≤ 100 := len_le ds hl 100 (by rw [hv]; exact h)

theorem getD_in {α : Type} (l : List α) (k : Nat) (x : α) (hk : k < l.length) : l.getD k x = l[k] := by simp [List.getD_eq_getElem?_getD, List.getElem?_eq_getElem hk]
theorem getD_out {α : Type} (l : List α) (k : Nat) (x : α) (hk : l.length ≤ k) : l.getD k x = x := by simp [List.getD_eq_getElem?_getD, List.getElem?_eq_none hk]
theorem dval_take_getD (ds : List Nat) (k : Nat) : dval (ds.take (k + 1)) = dval (ds.take k) + 65536 ^ k * ds.getD k 0 := by
  by_cases hk : k < ds.length
  · rw [dval_take_succ ds k hk, getD_in _ _ _ hk]
  · rw [List.take_of_length_le (by omega), List.take_of_length_le (by omega), getD_out _ _ _ (by omega)]; simp
theorem digs_getD {ds : List Nat} (h : Digs ds) (k : Nat) : ds.getD k 0 < 65536 := by
  by_cases hk : k < ds.length
  · rw [getD_in _ _ _ hk]; exact digs_get h k hk
  · rw [getD_out _ _ _ (by omega)]; omega

/-- How the rounds of a sum of digits stand. -/
structure AddIn (a b ds : List Nat) (k c : Nat) : Prop where
  len : ds.length = k
  digs : Digs ds
  c1 : c ≤ 1
  le : k ≤ max a.length b.length ∨ (k = max a.length b.length + 1 ∧ c = 0)
  eq : dval ds + 65536 ^ k * c = dval (a.take k) + dval (b.take k)
theorem AddIn.start (a b : List Nat) : AddIn a b [] 0 0 := ⟨rfl, (fun d hd => by cases hd), by omega, .inl (by omega), by simp [dval]⟩
theorem AddIn.step {a b ds : List Nat} {k c : Nat} (h : AddIn a b ds k c) (ha : Digs a) (hb : Digs b) (hgo : k < a.length ∨ k < b.length ∨ 0 < c) :
    AddIn a b (ds ++ [(c + a.getD k 0 + b.getD k 0) % 65536]) (k + 1) ((c + a.getD k 0 + b.getD k 0) / 65536) := by
  have h1 := digs_getD ha k
  have h2 := digs_getD hb k
  have h3 := h.c1
  refine ⟨by simp [h.len], digs_snoc h.digs (by omega), by omega, ?_, ?_⟩
  · have := h.le
    by_cases hk : k < max a.length b.length
    · exact .inl (by omega)
    · have e1 : a.getD k 0 = 0 := getD_out _ _ _ (by omega)
      have e2 : b.getD k 0 = 0 := getD_out _ _ _ (by omega)
      rw [e1, e2]
      exact .inr ⟨by omega, by omega⟩
  · have e := h.eq
    rw [dval_snoc, h.len, dval_take_getD, dval_take_getD, Nat.pow_succ]
    generalize a.getD k 0 = x at *
    generalize b.getD k 0 = y at *
    generalize 65536 ^ k = P at *
    have hq : (c + x + y) % 65536 + 65536 * ((c + x + y) / 65536) = c + x + y := by omega
    have : P * ((c + x + y) % 65536) + P * 65536 * ((c + x + y) / 65536) = P * c + P * x + P * y := by
      rw [Nat.mul_assoc, ← Nat.mul_add, hq, Nat.mul_add, Nat.mul_add]
    omega
theorem AddIn.done {a b ds : List Nat} {k c : Nat} (h : AddIn a b ds k c) (h1 : a.length ≤ k) (h2 : b.length ≤ k) (h3 : c = 0) : dval ds = dval a + dval b := by
  have e := h.eq
  rw [List.take_of_length_le h1, List.take_of_length_le h2, h3] at e
  simpa using e

/-- How the rounds of a difference of digits stand. -/
structure SubIn (a b ds : List Nat) (k c : Nat) : Prop where
  len : ds.length = k
  digs : Digs ds
  c1 : c ≤ 1
  le : k ≤ a.length
  eq : dval (a.take k) + 65536 ^ k * c = dval (b.take k) + dval ds
theorem SubIn.start (a b : List Nat) : SubIn a b [] 0 0 := ⟨rfl, (fun d hd => by cases hd), by omega, by omega, by simp [dval]⟩
theorem SubIn.step {a b ds : List Nat} {k c c' : Nat} (h : SubIn a b ds k c) (ha : Digs a) (hb : Digs b) (hgo : k < a.length) (hc' : c' = if a.getD k 0 < c + b.getD k 0 then 1 else 0) :
    c + b.getD k 0 ≤ a.getD k 0 + 65536 * c' ∧ SubIn a b (ds ++ [a.getD k 0 + 65536 * c' - (c + b.getD k 0)]) (k + 1) c' := by
  have h1 := digs_getD ha k
  have h2 := digs_getD hb k
  have h3 := h.c1
  have hle : c + b.getD k 0 ≤ a.getD k 0 + 65536 * c' := by rw [hc']; split <;> omega
  refine ⟨hle, by simp [h.len], digs_snoc h.digs (by rw [hc']; split <;> omega), by rw [hc']; split <;> omega, by omega, ?_⟩
  have e := h.eq
  rw [dval_snoc, h.len, dval_take_getD, dval_take_getD, Nat.pow_succ]
  generalize a.getD k 0 = x at *
  generalize b.getD k 0 = y at *
  generalize 65536 ^ k = P at *
  have : P * (x + 65536 * c' - (c + y)) + P * (c + y) = P * x + P * 65536 * c' := by
    rw [← Nat.mul_add, Nat.sub_add_cancel hle, Nat.mul_add, Nat.mul_assoc]
  rw [Nat.mul_add] at this
  omega
theorem SubIn.done {a b ds : List Nat} {k c : Nat} (h : SubIn a b ds k c) (hk : k = a.length) (hb : b.length ≤ a.length) (hab : dval b ≤ dval a) : dval ds = dval a - dval b := by
  have e := h.eq
  rw [List.take_of_length_le (by omega), List.take_of_length_le (by omega)] at e
  have h1 := dval_lt ds h.digs
  rw [h.len] at h1
  have hc := h.c1
  have : c = 0 := by
    by_cases hc0 : c = 0
    · exact hc0
    · have : c = 1 := by omega
      subst this
      omega
  subst this
  omega
theorem len_of_le (a b : List Nat) (ha : Digs a) (hb : NoLead b) (h : dval b ≤ dval a) : b.length ≤ a.length := by
  by_cases hc : b.length ≤ a.length
  · exact hc
  · have := dval_len_lt a b ha hb (by omega); omega

theorem dval_set (ds : List Nat) (j x : Nat) (hj : j < ds.length) : dval (ds.set j x) + 65536 ^ j * ds.getD j 0 = dval ds + 65536 ^ j * x := by
  induction ds generalizing j with
  | nil => simp at hj
  | cons d ds ih =>
    cases j with
    | zero => simp [dval, List.set]; omega
    | succ j =>
      have := ih j (by simpa using hj)
      simp only [List.set_cons_succ, dval, List.getD_cons_succ, Nat.pow_succ]
      rw [Nat.mul_comm (65536 ^ j) 65536, Nat.mul_assoc, Nat.mul_assoc]
      omega
theorem digs_set {ds : List Nat} (h : Digs ds) (j x : Nat) (hx : x < 65536) : Digs (ds.set j x) := by
  intro d hd
  rcases List.mem_or_eq_of_mem_set hd with hd | rfl
  · exact h d hd
  · exact hx
theorem dval_zeros (n : Nat) : dval (List.replicate n 0) = 0 := by
  induction n with
  | zero => rfl
  | succ n ih => simp [List.replicate_succ, dval, ih]
/-- How the rounds of a product stand: i digits of a are done; of the next one k digits of b, c is carried. -/
structure MulOut (a b ds : List Nat) (i : Nat) : Prop where
  len : ds.length = a.length + b.length + 1
  digs : Digs ds
  le : i ≤ a.length
  eq : dval ds = dval (a.take i) * dval b
structure MulIn (a b ds : List Nat) (i k c : Nat) : Prop where
  len : ds.length = a.length + b.length + 1
  digs : Digs ds
  le : i < a.length
  kle : k ≤ b.length + 1
  c1 : c ≤ 65535
  eq : dval ds + 65536 ^ (i + k) * c = dval (a.take i) * dval b + 65536 ^ i * (a.getD i 0 * dval (b.take k))
theorem MulOut.start (a b : List Nat) : MulOut a b (List.replicate (a.length + b.length + 1) 0) 0 :=
  ⟨by simp, (fun d hd => by have := List.eq_of_mem_replicate hd; omega), by omega, by simp [dval_zeros, dval]⟩
theorem MulOut.inner {a b ds : List Nat} {i : Nat} (h : MulOut a b ds i) (hi : i < a.length) : MulIn a b ds i 0 0 :=
  ⟨h.len, h.digs, hi, by omega, by omega, by rw [h.eq]; simp [dval]⟩
theorem MulIn.top {a b ds : List Nat} {i k c : Nat} (h : MulIn a b ds i k c) (hk : b.length ≤ k) : dval ds + 65536 ^ (i + k) * c = dval (a.take (i + 1)) * dval b := by
  have e := h.eq
  rw [List.take_of_length_le hk] at e
  rw [e, dval_take_getD, Nat.add_mul, Nat.mul_assoc]
theorem MulIn.klt {a b ds : List Nat} {i k c : Nat} (h : MulIn a b ds i k c) (ha : Digs a) (hb : Digs b) (hgo : k < b.length ∨ 0 < c) : k ≤ b.length := by
  by_cases hk : k < b.length
  · omega
  · have hc : 0 < c := by omega
    have e := h.top (by omega)
    have h1 := dval_lt (a.take (i + 1)) (digs_take ha _)
    have h2 := dval_lt b hb
    rw [List.length_take, Nat.min_eq_left (by have := h.le; omega)] at h1
    have h3 : dval (a.take (i + 1)) * dval b < 65536 ^ (i + 1) * 65536 ^ b.length := Nat.mul_lt_mul'' h1 h2
    rw [← Nat.pow_add] at h3
    have h4 : 65536 ^ (i + k) * 1 ≤ 65536 ^ (i + k) * c := Nat.mul_le_mul_left _ hc
    have h5 : 65536 ^ (i + k) < 65536 ^ (i + 1 + b.length) := by omega
    have := (Nat.pow_lt_pow_iff_right (by omega)).1 h5
    omega
theorem MulIn.step {a b ds : List Nat} {i k c t : Nat} (h : MulIn a b ds i k c) (ha : Digs a) (hb : Digs b) (hk : k ≤ b.length) (ht : t = c + ds.getD (i + k) 0 + a.getD i 0 * b.getD k 0) :
    t ≤ 4294967295 ∧ MulIn a b (ds.set (i + k) (t % 65536)) i (k + 1) (t / 65536) := by
  have h1 := digs_getD ha i
  have h2 := digs_getD hb k
  have h3 := digs_getD h.digs (i + k)
  have h4 := h.c1
  have hm : a.getD i 0 * b.getD k 0 ≤ 65535 * 65535 := Nat.mul_le_mul (by omega) (by omega)
  have htl : t ≤ 4294967295 := by omega
  refine ⟨htl, by rw [List.length_set]; exact h.len, digs_set h.digs _ _ (by omega), h.le, by omega, by omega, ?_⟩
  have e := h.eq
  have es := dval_set ds (i + k) (t % 65536) (by have := h.len; have := h.le; omega)
  rw [dval_take_getD, show i + (k + 1) = i + k + 1 by omega, Nat.pow_succ]
  have e3 : 65536 ^ i * (a.getD i 0 * (dval (b.take k) + 65536 ^ k * b.getD k 0)) = 65536 ^ i * (a.getD i 0 * dval (b.take k)) + 65536 ^ (i + k) * (a.getD i 0 * b.getD k 0) := by
    rw [Nat.mul_add, Nat.mul_add, Nat.pow_add]
    congr 1
    rw [← Nat.mul_assoc (a.getD i 0), Nat.mul_comm (a.getD i 0), Nat.mul_assoc, Nat.mul_assoc]
  rw [e3]
  generalize 65536 ^ (i + k) = P at *
  generalize a.getD i 0 * b.getD k 0 = xy at *
  generalize ds.getD (i + k) 0 = dj at *
  have e4 : P * (t % 65536) + P * 65536 * (t / 65536) = P * c + P * dj + P * xy := by
    rw [Nat.mul_assoc, ← Nat.mul_add, Nat.mod_add_div, ht, Nat.mul_add, Nat.mul_add]
  omega
theorem MulIn.done {a b ds : List Nat} {i k c : Nat} (h : MulIn a b ds i k c) (hk : b.length ≤ k) (hc : c = 0) : MulOut a b ds (i + 1) := by
  have e := h.top hk
  rw [hc] at e
  exact ⟨h.len, h.digs, h.le, by simpa using e⟩
theorem MulOut.done {a b ds : List Nat} {i : Nat} (h : MulOut a b ds i) (hi : i = a.length) : dval ds = dval a * dval b := by
  rw [h.eq, List.take_of_length_le (by omega)]
end Go.Proofs.YtkdklmkcanjjfaaDoor
