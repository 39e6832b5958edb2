/- Ratios in signs: plain laws of decimals. -/
import Derived.Test.YtkdklmkcanjjfaaDoorRatE
import Derived.Lib.ItoaMem
namespace Go.Proofs.YtkdklmkcanjjfaaDoor
set_option linter.unusedVariables false
set_option linter.unusedSimpArgs false
set_option maxRecDepth 100000

theorem dig_nat (k : Nat) (h : k < 10) : (UInt8.ofNat (48 + k)).toNat = 48 + k := by
  rw [UInt8.toNat_ofNat']; omega
theorem dec_small {u : Nat} (h : u < 10) : Lib.decDigits u = [UInt8.ofNat (48 + u)] := by rw [Lib.decDigits, dif_pos h]
theorem dec_big {u : Nat} (h : ¬ u < 10) : Lib.decDigits u = Lib.decDigits (u / 10) ++ [UInt8.ofNat (48 + u % 10)] := by rw [Lib.decDigits, dif_neg h]
theorem dec_digit (u : Nat) : ∀ c ∈ Lib.decDigits u, 48 ≤ c.toNat ∧ c.toNat ≤ 57 := by
  induction u using Nat.strongRecOn with
  | _ u ih =>
    intro c hc
    by_cases h : u < 10
    · rw [dec_small h] at hc
      simp only [List.mem_singleton] at hc
      subst hc
      rw [dig_nat u h]; omega
    · rw [dec_big h] at hc
      rcases List.mem_append.1 hc with hc | hc
      · exact ih (u / 10) (by omega) c hc
      · simp only [List.mem_singleton] at hc
        subst hc
        rw [dig_nat _ (by omega)]; omega
theorem dec_ne (u : Nat) : Lib.decDigits u ≠ [] := by
  by_cases h : u < 10
  · rw [dec_small h]; simp
  · rw [dec_big h]; simp
theorem pm_snoc (M : Nat) : ∀ (l : List UInt8) (acc a : Nat) (c : UInt8), Lib.parseUintM M acc l = .ok a → 48 ≤ c.toNat → c.toNat ≤ 57 → a < 1844674407370955162 → a * 10 + (c.toNat - 48) ≤ M → Lib.parseUintM M acc (l ++ [c]) = .ok (a * 10 + (c.toNat - 48))
  | [], acc, a, c, h, h1, h2, h3, h4 => by
    simp only [Lib.parseUintM] at h
    injection h with h
    subst h
    simp only [List.nil_append, Lib.parseUintM]
    rw [if_pos ⟨h1, h2⟩, if_neg (by omega), if_neg (by omega)]
  | x :: l, acc, a, c, h, h1, h2, h3, h4 => by
    simp only [List.cons_append, Lib.parseUintM] at h ⊢
    by_cases hx : 48 ≤ x.toNat ∧ x.toNat ≤ 57
    · rw [if_pos hx] at h ⊢
      by_cases hy : 1844674407370955162 ≤ acc
      · rw [if_pos hy] at h; cases h
      · rw [if_neg hy] at h ⊢
        by_cases hz : M < acc * 10 + (x.toNat - 48)
        · rw [if_pos hz] at h; cases h
        · rw [if_neg hz] at h ⊢
          exact pm_snoc M l _ a c h h1 h2 h3 h4
    · rw [if_neg hx] at h; cases h
theorem pm_dec (u : Nat) : u ≤ 18446744073709551615 → Lib.parseUintM 18446744073709551615 0 (Lib.decDigits u) = .ok u := by
  induction u using Nat.strongRecOn with
  | _ u ih =>
    intro hu
    by_cases h : u < 10
    · rw [dec_small h]
      have := pm_snoc 18446744073709551615 [] 0 0 (UInt8.ofNat (48 + u)) rfl (by rw [dig_nat u h]; omega) (by rw [dig_nat u h]; omega) (by omega) (by rw [dig_nat u h]; omega)
      rw [List.nil_append] at this
      rw [this, dig_nat u h]
      congr 1; omega
    · rw [dec_big h]
      have h1 := ih (u / 10) (by omega) (by omega)
      have hd := dig_nat (u % 10) (by omega)
      have := pm_snoc 18446744073709551615 _ 0 _ (UInt8.ofNat (48 + u % 10)) h1 (by rw [hd]; omega) (by rw [hd]; omega) (by omega) (by rw [hd]; omega)
      rw [this, hd]
      congr 1; omega
theorem parse_itoa {n : Int} (hn : InI n) : Lib.parseIntB 64 (Lib.itoa n) = .ok n := by
  obtain ⟨h1, h2⟩ := hn
  have hM : (2 : Nat) ^ 64 - 1 = 18446744073709551615 := by decide
  have hM2 : (2 : Nat) ^ (64 - 1) = 9223372036854775808 := by decide
  by_cases h0 : n < 0
  · unfold Lib.itoa
    rw [if_pos h0]
    simp only [Lib.parseIntB]
    rw [if_pos (by right; decide)]
    unfold Lib.parseUintB
    rw [if_neg (dec_ne _), hM, pm_dec _ (by omega)]
    simp only [hM2]
    rw [if_neg (by simp), if_neg (by simp; omega), if_pos (by decide)]
    congr 1; omega
  · unfold Lib.itoa
    rw [if_neg h0]
    rcases hd : Lib.decDigits n.toNat with _ | ⟨c, r⟩
    · exact absurd hd (dec_ne _)
    · have hc := dec_digit n.toNat c (by rw [hd]; simp)
      simp only [Lib.parseIntB]
      rw [if_neg (by omega), ← hd]
      unfold Lib.parseUintB
      rw [if_neg (dec_ne _), hM, pm_dec _ (by omega)]
      simp only [hM2]
      rw [if_neg (by omega), if_neg (by omega), if_neg (by omega)]
      congr 1; omega

/- The reference's Number. -/
def nstep (neg : Bool) (o : Option Int) (c : UInt8) : Option Int :=
  o.bind fun n => if c.toNat < 48 ∨ 57 < c.toNat then none
    else if neg = true then (if n < (-9223372036854775808 + ((c.toNat : Int) - 48)).tdiv 10 then none else some (10 * n - ((c.toNat : Int) - 48)))
    else (if (9223372036854775807 - ((c.toNat : Int) - 48)).tdiv 10 < n then none else some (10 * n + ((c.toNat : Int) - 48)))
def nfold (neg : Bool) (l : List UInt8) : Option Int := l.foldl (nstep neg) (some 0)
def negB (l : List UInt8) : Bool := l.head? == some 45
def bodyR (l : List UInt8) : List UInt8 := if negB l = true then l.tail else l
def numN (l : List UInt8) : Int := (nfold (negB l) (bodyR l)).getD 0
def numB (l : List UInt8) : Bool := match nfold (negB l) (bodyR l) with
  | none => false
  | some n => Lib.itoa n == l
theorem nfold_none (neg : Bool) : ∀ l : List UInt8, l.foldl (nstep neg) none = none
  | [] => rfl
  | c :: r => nfold_none neg r
theorem nfold_snoc (neg : Bool) (l : List UInt8) (c : UInt8) : nfold neg (l ++ [c]) = nstep neg (nfold neg l) c := by unfold nfold; rw [List.foldl_append]; rfl
/-- What has been read has its place, and its sign. -/
theorem nfold_in (neg : Bool) : ∀ (l : List UInt8) (o : Option Int), (∀ n, o = some n → InI n ∧ (neg = true → n ≤ 0) ∧ (neg = false → 0 ≤ n)) → ∀ n, l.foldl (nstep neg) o = some n → InI n ∧ (neg = true → n ≤ 0) ∧ (neg = false → 0 ≤ n)
  | [], o, ho, n, h => ho n h
  | c :: r, o, ho, n, h => by
    refine nfold_in neg r (nstep neg o c) (fun m hm => ?_) n h
    cases o with
    | none => cases hm
    | some k =>
      obtain ⟨⟨k1, k2⟩, k3, k4⟩ := ho k rfl
      simp only [nstep, Option.bind_some] at hm
      split at hm
      · cases hm
      · rename_i hc
        have hd : (0 : Int) ≤ (c.toNat : Int) - 48 ∧ (c.toNat : Int) - 48 ≤ 9 := by omega
        generalize (c.toNat : Int) - 48 = d at *
        cases neg
        · simp only [Bool.false_eq_true, if_false] at hm
          have h0 := k4 rfl
          have ht : (9223372036854775807 - d).tdiv 10 = (9223372036854775807 - d) / 10 := Int.tdiv_eq_ediv_of_nonneg (by omega)
          rw [ht] at hm
          split at hm
          · cases hm
          · injection hm with hm
            subst hm
            exact ⟨⟨by omega, by omega⟩, by simp, fun _ => by omega⟩
        · simp only [if_true] at hm
          have h0 := k3 rfl
          have ht : (-9223372036854775808 + d).tdiv 10 = -((9223372036854775808 - d) / 10) := by
            rw [show -9223372036854775808 + d = -(9223372036854775808 - d) by omega, Int.neg_tdiv, Int.tdiv_eq_ediv_of_nonneg (by omega)]
          rw [ht] at hm
          split at hm
          · cases hm
          · injection hm with hm
            subst hm
            exact ⟨⟨by omega, by omega⟩, fun _ => by omega, by simp⟩
theorem nfold_ok {neg : Bool} {l : List UInt8} {n : Int} (h : nfold neg l = some n) : InI n ∧ (neg = true → n ≤ 0) ∧ (neg = false → 0 ≤ n) :=
  nfold_in neg l (some 0) (fun m hm => by injection hm with hm; subst hm; exact ⟨⟨by omega, by omega⟩, by simp, by simp⟩) n h
theorem nfold_dec (neg : Bool) (u : Nat) : (u : Int) ≤ (if neg = true then 9223372036854775808 else 9223372036854775807) → nfold neg (Lib.decDigits u) = some (if neg = true then -(u : Int) else u) := by
  induction u using Nat.strongRecOn with
  | _ u ih =>
    intro hu
    have step : ∀ (q k : Nat), u = q * 10 + k → k < 10 → nstep neg (some (if neg = true then -(q : Int) else q)) (UInt8.ofNat (48 + k)) = some (if neg = true then -(u : Int) else u) := by
      intro q k e hk
      have hd := dig_nat k hk
      simp only [nstep, Option.bind_some]
      rw [hd, if_neg (by omega), show ((48 + k : Nat) : Int) - 48 = (k : Int) by omega]
      cases neg
      · simp only [Bool.false_eq_true, if_false] at hu ⊢
        rw [Int.tdiv_eq_ediv_of_nonneg (by omega), if_neg (by omega)]
        congr 1; omega
      · simp only [if_true] at hu ⊢
        have ht : (-9223372036854775808 + (k : Int)).tdiv 10 = -((9223372036854775808 - (k : Int)) / 10) := by
          rw [show -9223372036854775808 + (k : Int) = -(9223372036854775808 - (k : Int)) by omega, Int.neg_tdiv, Int.tdiv_eq_ediv_of_nonneg (by omega)]
        rw [ht, if_neg (by omega)]
        congr 1; omega
    by_cases h : u < 10
    · rw [dec_small h]
      have := step 0 u (by omega) h
      have h0 : (if neg = true then -((0 : Nat) : Int) else ((0 : Nat) : Int)) = 0 := by split <;> rfl
      rw [h0] at this
      exact this
    · rw [dec_big h, nfold_snoc, ih (u / 10) (by omega) (by split at hu <;> rename_i hh <;> simp [hh] <;> omega)]
      exact step (u / 10) (u % 10) (by omega) (by omega)
theorem num_itoa {v : Int} (hv : InI v) : numN (Lib.itoa v) = v ∧ numB (Lib.itoa v) = true := by
  obtain ⟨h1, h2⟩ := hv
  have hf : nfold (negB (Lib.itoa v)) (bodyR (Lib.itoa v)) = some v := by
    by_cases h0 : v < 0
    · have e : Lib.itoa v = 45 :: Lib.decDigits v.natAbs := by unfold Lib.itoa; rw [if_pos h0]
      have e1 : negB (Lib.itoa v) = true := by rw [e]; rfl
      unfold bodyR
      rw [e1, if_pos rfl, e, List.tail_cons, nfold_dec true v.natAbs (by simp; omega)]
      simp only [if_true]
      congr 1; omega
    · have e : Lib.itoa v = Lib.decDigits v.toNat := by unfold Lib.itoa; rw [if_neg h0]
      have e1 : negB (Lib.itoa v) = false := by
        rw [e]
        unfold negB
        rcases hd : Lib.decDigits v.toNat with _ | ⟨c, r⟩
        · rfl
        · have hc := dec_digit v.toNat c (by rw [hd]; simp)
          simp only [List.head?_cons]
          rw [beq_eq_false_iff_ne]
          intro h
          injection h with h
          subst h
          exact absurd hc.1 (by decide)
      unfold bodyR
      rw [e1, if_neg (by decide), e, nfold_dec false v.toNat (by simp; omega)]
      simp only [Bool.false_eq_true, if_false]
      congr 1; omega
  unfold numN numB
  rw [hf]
  simp
theorem num_in (l : List UInt8) : InI (numN l) := by
  unfold numN
  rcases h : nfold (negB l) (bodyR l) with _ | n
  · exact ⟨by decide, by decide⟩
  · exact (nfold_ok h).1
theorem num_yes {l : List UInt8} (h : numB l = true) : Lib.itoa (numN l) = l := by
  unfold numB at h
  unfold numN
  rcases e : nfold (negB l) (bodyR l) with _ | n
  · rw [e] at h; cases h
  · rw [e] at h
    simpa using h

/- The place of the sign. -/
theorem idx_none : ∀ l : List UInt8, (∀ c ∈ l, c ≠ 47) → Lib.index l [47] = -1
  | [], _ => rfl
  | c :: r, h => by
    have ih := idx_none r (fun x hx => h x (by simp [hx]))
    have hc : ((47 : UInt8) == c) = false := by rw [beq_eq_false_iff_ne]; exact fun e => h c (by simp) e.symm
    simp [Lib.index, List.isPrefixOf, hc, ih]
theorem idx_at : ∀ (p q : List UInt8), (∀ c ∈ p, c ≠ 47) → Lib.index (p ++ 47 :: q) [47] = p.length
  | [], q, _ => by simp [Lib.index, List.isPrefixOf]
  | c :: r, q, h => by
    have ih := idx_at r q (fun x hx => h x (by simp [hx]))
    have hc : ((47 : UInt8) == c) = false := by rw [beq_eq_false_iff_ne]; exact fun e => h c (by simp) e.symm
    simp only [List.cons_append, Lib.index, List.isPrefixOf, hc, Bool.false_and, Bool.false_eq_true, if_false, ih]
    rw [if_neg (by simp)]
    simp
theorem cut_none {l : List UInt8} (h : ∀ c ∈ l, c ≠ 47) : Lib.cut l [47] = (l, [], false) := by
  unfold Lib.cut; rw [idx_none l h, if_neg (by decide)]
theorem cut_at {p q : List UInt8} (h : ∀ c ∈ p, c ≠ 47) : Lib.cut (p ++ 47 :: q) [47] = (p, q, true) := by
  unfold Lib.cut
  rw [idx_at p q h, if_pos (by omega)]
  have e : ((p.length : Int)).toNat = p.length := by omega
  rw [e]
  simp
theorem itoa_no (n : Int) : ∀ c ∈ Lib.itoa n, c ≠ 47 := by
  intro c hc
  unfold Lib.itoa at hc
  have hd : ∀ u, c ∈ Lib.decDigits u → c ≠ 47 := fun u hu e => by
    have := dec_digit u c hu
    rw [e] at this
    exact absurd this.1 (by decide)
  split at hc
  · rcases List.mem_cons.1 hc with rfl | hc
    · decide
    · exact hd _ hc
  · exact hd _ hc
theorem itoa_ne (n : Int) : Lib.itoa n ≠ [] := by unfold Lib.itoa; split; simp; exact dec_ne _
theorem itoa_one : Lib.itoa 1 = [49] := by decide +kernel
/-- The parts of a good ratio's signs. -/
theorem text_parts {n d : Int} (h : goodB n d = true) : parseA (textR n d) = Lib.itoa n ∧ parseB (textR n d) = Lib.itoa d := by
  unfold parseA parseB textR
  rw [if_pos h]
  by_cases h1 : d = 1
  · subst h1
    rw [if_pos rfl, cut_none (itoa_no n)]
    exact ⟨rfl, itoa_one.symm⟩
  · rw [if_neg h1, cut_at (itoa_no n)]
    exact ⟨rfl, rfl⟩
theorem cut_nil : Lib.cut [] [47] = ([], [], false) := by decide
theorem text_good {n d : Int} (h : textR n d ≠ []) : goodB n d = true := by
  unfold textR at h
  by_cases hg : goodB n d = true
  · exact hg
  · rw [if_neg hg] at h; exact absurd rfl h
theorem text_some {n d : Int} (h : goodB n d = true) : textR n d ≠ [] := by
  unfold textR
  rw [if_pos h]
  split
  · exact itoa_ne n
  · simp
open Classical in
/-- The ratio that a text spells, and the error. -/
noncomputable def sigR (l : List UInt8) : Int × Int × Int :=
  if h : ∃ p : Int × Int, InI p.1 ∧ InI p.2 ∧ goodB p.1 p.2 = true ∧ textR p.1 p.2 = l then ((Classical.choose h).1, (Classical.choose h).2, 0) else (0, 0, 4)
theorem sig_yes {n d : Int} (hn : InI n) (hd : InI d) (h : goodB n d = true) : sigR (textR n d) = (n, d, 0) := by
  have hx : ∃ p : Int × Int, InI p.1 ∧ InI p.2 ∧ goodB p.1 p.2 = true ∧ textR p.1 p.2 = textR n d := ⟨(n, d), hn, hd, h, rfl⟩
  unfold sigR
  rw [dif_pos hx]
  obtain ⟨c1, c2, c3, c4⟩ := Classical.choose_spec hx
  generalize Classical.choose hx = p at *
  obtain ⟨a1, a2⟩ := text_parts c3
  obtain ⟨b1, b2⟩ := text_parts h
  rw [c4, b1] at a1
  rw [c4, b2] at a2
  have e1 := parse_itoa hn
  have e2 := parse_itoa hd
  rw [a1, parse_itoa c1] at e1
  rw [a2, parse_itoa c2] at e2
  injection e1 with e1
  injection e2 with e2
  rw [e1, e2]
theorem sig_no {l : List UInt8} (h : ∀ n d : Int, InI n → InI d → goodB n d = true → textR n d ≠ l) : sigR l = (0, 0, 4) := by
  unfold sigR
  rw [dif_neg (fun ⟨p, h1, h2, h3, h4⟩ => h p.1 p.2 h1 h2 h3 h4)]
/-- What a text that spells a ratio comes to, part by part. -/
theorem sig_parts {l : List UInt8} {n d : Int} (hn : InI n) (hd : InI d) (h : goodB n d = true) (e : textR n d = l) :
    Lib.parseIntB 64 (parseA l) = .ok n ∧ Lib.parseIntB 64 (parseB l) = .ok d ∧ numN (parseA l) = n ∧ numB (parseA l) = true ∧ numN (parseB l) = d ∧ numB (parseB l) = true := by
  obtain ⟨b1, b2⟩ := text_parts h
  rw [e] at b1 b2
  rw [b1, b2]
  exact ⟨parse_itoa hn, parse_itoa hd, (num_itoa hn).1, (num_itoa hn).2, (num_itoa hd).1, (num_itoa hd).2⟩
theorem parseA_ne {l : List UInt8} (h : parseA l ≠ []) : l ≠ [] := by
  rintro rfl
  exact h (by unfold parseA; rw [cut_nil])
/-- The program's answer, and the reference's. -/
theorem sig_prog {l : List UInt8} {n d : Int} (hn : InI n) (hd : InI d) (ha : Lib.parseIntB 64 (parseA l) = .ok n) (hb : Lib.parseIntB 64 (parseB l) = .ok d) :
    sigR l = if textR n d = l then (n, d, 0) else (0, 0, 4) := by
  by_cases e : textR n d = l
  · rw [if_pos e]
    have hl : l ≠ [] := parseA_ne (fun h => by rw [h] at ha; cases ha)
    have hg : goodB n d = true := text_good (by rw [e]; exact hl)
    rw [← e]
    exact sig_yes hn hd hg
  · rw [if_neg e]
    refine sig_no fun n' d' h1 h2 h3 h4 => ?_
    obtain ⟨p1, p2, _⟩ := sig_parts h1 h2 h3 h4
    rw [ha] at p1
    rw [hb] at p2
    injection p1 with p1
    injection p2 with p2
    subst p1
    subst p2
    exact e h4
theorem sig_ref {l : List UInt8} : sigR l = if (numB (parseA l) && numB (parseB l)) = true ∧ textR (numN (parseA l)) (numN (parseB l)) = l then (numN (parseA l), numN (parseB l), 0) else (0, 0, 4) := by
  by_cases hc : (numB (parseA l) && numB (parseB l)) = true ∧ textR (numN (parseA l)) (numN (parseB l)) = l
  · rw [if_pos hc]
    obtain ⟨hx, e⟩ := hc
    simp only [Bool.and_eq_true] at hx
    have hl : l ≠ [] := parseA_ne (fun h => itoa_ne _ ((num_yes hx.1).trans h))
    have hg := text_good (n := numN (parseA l)) (d := numN (parseB l)) (by rw [e]; exact hl)
    have := sig_yes (num_in (parseA l)) (num_in (parseB l)) hg
    rw [e] at this
    exact this
  · rw [if_neg hc]
    refine sig_no fun n' d' h1 h2 h3 h4 => hc ?_
    obtain ⟨_, _, p3, p4, p5, p6⟩ := sig_parts h1 h2 h3 h4
    rw [p3, p4, p5, p6]
    exact ⟨rfl, h4⟩
theorem sig_bad1 {l : List UInt8} (h : ∀ v, Lib.parseIntB 64 (parseA l) ≠ .ok v) : sigR l = (0, 0, 4) :=
  sig_no fun n d h1 h2 h3 h4 => h n (sig_parts h1 h2 h3 h4).1
theorem sig_bad2 {l : List UInt8} (h : ∀ v, Lib.parseIntB 64 (parseB l) ≠ .ok v) : sigR l = (0, 0, 4) :=
  sig_no fun n d h1 h2 h3 h4 => h d (sig_parts h1 h2 h3 h4).2.1
theorem parse_in {l : List UInt8} {v : Int} (h : Lib.parseIntB 64 l = .ok v) : InI v := by
  rcases l with _ | ⟨c, r⟩
  · cases h
  · have hM : (2 : Nat) ^ (64 - 1) = 9223372036854775808 := by decide
    simp only [Lib.parseIntB, hM] at h
    generalize Lib.parseUintB 64 (if c.toNat = 43 ∨ c.toNat = 45 then r else c :: r) = z at h
    rcases z with u | _ | _
    · simp only at h
      split at h
      · cases h
      · rename_i h1
        split at h
        · cases h
        · rename_i h2
          injection h with h
          subst h
          by_cases hc : c.toNat = 45
          · rw [if_pos hc]; exact ⟨by omega, by omega⟩
          · rw [if_neg hc]; exact ⟨by omega, by omega⟩
    · cases h
    · cases h
end Go.Proofs.YtkdklmkcanjjfaaDoor
