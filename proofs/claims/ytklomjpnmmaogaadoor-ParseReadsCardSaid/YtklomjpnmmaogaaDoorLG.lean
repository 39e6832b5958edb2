/- step, and close, as they stand to what the whole text comes to. -/
import Derived.Test.YtklomjpnmmaogaaDoorLF
import Derived.Test.YtklomjpnmmaogaaDoorLB
namespace Go.Proofs.YtklomjpnmmaogaaDoor
open Go Go.RowKit
set_option linter.unusedVariables false
set_option linter.unusedSimpArgs false
set_option maxRecDepth 100000

/-- What stands between two code points, where the whole text comes to T. -/
def InvX (s : ByteArray) (T : LexR) (i : Nat) (l : List Tok) (line col : Nat) (fr : Int) (al ac : Nat) (rem : Bool) : Prop :=
  i ≤ s.size ∧ l.length ≤ i ∧ ((fr = -1 ∧ T = (lexF (s.data.toList.drop i) line col rem).pre l) ∨
    ∃ (f : Nat) (acc : List UInt8), fr = f ∧ f ≤ i ∧ rem = false ∧ s.data.toList.drop f = acc ++ s.data.toList.drop i ∧ acc.length = i - f ∧ RunT acc ∧ line = al ∧ col = ac + acc.length ∧ T = (runR acc (s.data.toList.drop i) al ac).pre l ∧ l.length ≤ f)
section
variable {w0 w : World} {g k b p : Nat} {s : ByteArray} {R : Value} {l : List Tok} {line col al ac : Nat} {rem : Bool}
theorem extract_list (s : ByteArray) (i : Nat) : (s.extract i s.size).data.toList = s.data.toList.drop i := by
  rw [Lib.extract_data, List.take_of_length_le (by rw [List.length_drop, ← Lib.size_eq]; exact Nat.le_refl _)]
theorem sub_iff (i : Nat) (hi : i < s.size) : subB s i = true ↔ Sub3 s i := by
  unfold subB Lib.hasPrefix Sub3
  rw [extract_list]
  rw [get_drop s i hi, get_get s i hi]
  by_cases h1 : i + 1 < s.size
  · rw [get_drop s _ h1, get_get s _ h1]
    by_cases h2 : i + 2 < s.size
    · rw [get_drop s _ h2, get_get s _ h2]
      simp only [List.isPrefixOf, Bool.and_true, Bool.and_eq_true, beq_iff_eq]
      have e : ∀ (x : UInt8) (n : Nat) (hn : n < 256), UInt8.ofNat n = x ↔ x.toNat = n := fun x n hn => by
        rw [← UInt8.toNat_inj, UInt8.toNat_ofNat']
        omega
      have e1 := e s[i] 239 (by omega)
      have e2 := e s[i + 1] 191 (by omega)
      have e3 := e s[i + 2] 189 (by omega)
      exact ⟨fun ⟨a, b, c⟩ => ⟨e1.1 a, ⟨h1, e2.1 b⟩, h2, e3.1 c⟩, fun ⟨a, ⟨_, b⟩, _, c⟩ => ⟨e1.2 a, e2.2 b, e3.2 c⟩⟩
    · have : s.data.toList.drop (i + 1 + 1) = [] := List.drop_eq_nil_of_le (by simpa using (by omega : s.size ≤ i + 1 + 1))
      rw [this]
      simp [List.isPrefixOf]
      omega
  · have : s.data.toList.drop (i + 1) = [] := List.drop_eq_nil_of_le (by simpa using h1)
    rw [this]
    simp [List.isPrefixOf]
    omega
theorem an_rune {c : UInt8} {r : Nat} (h : c.toNat < 128 ∧ r = c.toNat ∨ 128 ≤ c.toNat ∧ 128 ≤ r) : (isLet (r : Int) || isDig (r : Int)) = anB c := by
  rcases h with ⟨_, rfl⟩ | ⟨h1, h2⟩
  · rw [let_nat, dig_nat]; rfl
  · have a1 : isLet (r : Int) = false := by unfold isLet; simp; omega
    have a2 : isDig (r : Int) = false := by unfold isDig; simp; omega
    have a3 : anB c = false := by
      cases h : anB c
      · rfl
      · have := an_high h
        omega
    rw [a1, a2, a3]; rfl
/-- A rune and the byte at its head. -/
theorem rune_byte (i : Nat) (hi : i < s.size) {r K : Nat} (hd : Utf8.decode s i = (r, K)) : s[i].toNat < 128 ∧ r = s[i].toNat ∧ K = 1 ∨ 128 ≤ s[i].toNat ∧ 128 ≤ r := by
  by_cases h : s[i].toNat < 128
  · have := decode_ascii s i hi h
    rw [hd] at this
    injection this with a b
    exact .inl ⟨h, a, b⟩
  · have := (decode_high s i hi (by omega)).1
    rw [hd] at this
    exact .inr ⟨by omega, this⟩
def StepPost (w0 w' : World) (g k b p : Nat) (s : ByteArray) (T : LexR) (i r K : Nat) (l : List Tok) (line col al ac : Nat) (rem : Bool) (e : Ending) : Prop :=
  (e = .returned (.int .i64 20) ∧ T = .err line col 20 ∧ ∃ R, Sc w0 w' g k b p s R R l line col (-1) al ac rem) ∨
    (e = .returned (.int .i64 0) ∧ ∃ R l' fr al' ac' rem', Sc w0 w' g k b p s R R l' line col fr al' ac' rem' ∧ InvX s T (i + K) l' (if r = 10 then line + 1 else line) (if r = 10 then 1 else col + 1) fr al' ac' rem')
set_option maxHeartbeats 1600000 in
theorem step_any (i : Nat) (hi : i < s.size) (hs : s.size ≤ 1048576) (hl : l.length ≤ i) {r K : Nat} (hd : Utf8.decode s i = (r, K)) {T : LexR} (hT : T = (lexF (s.data.toList.drop i) line col rem).pre l) (hS : Sc w0 w g k b p s R R l line col (-1) al ac rem) :
    Calls Tryd.prog 51 #[.pointer (some ⟨g, 0, none⟩), .int .i64 i, .int .i32 r] w fun e w' => StepPost w0 w' g k b p s T i r K l line col al ac rem e := by
  have hs' : s.size ≤ 281474976710656 := by omega
  have hb := rune_byte i hi hd
  have hg : s.get! i = s[i] := get_get s i hi
  have hdr := get_drop s i hi
  rcases decode_point s i hi with ⟨hp, hdec, hns⟩ | ⟨c0, hp, hdec, hsub⟩
  · rw [hd] at hdec
    injection hdec with h1 h2
    subst h1 h2
    have hq : subB s i = false := by
      cases h : subB s i
      · rfl
      · exact absurd ((sub_iff i hi).1 h) hns
    refine (step_bad i hi hs' hS hq).mono ?_
    rintro e w' ⟨rfl, rfl⟩
    rw [hdr] at hT hp
    rw [lexF_bad hp] at hT
    exact .inl ⟨rfl, hT, _, hS⟩
  · rw [hd] at hdec
    injection hdec with h1 h2
    subst h1
    rw [hdr] at hT hp h2
    have hr65 : (r : Int) = 65533 → subB s i = true := fun h => (sub_iff i hi).2 (hsub (by omega))
    have hle : i + K ≤ s.size := by
      obtain ⟨q, hq, hql, _⟩ := point_take hp
      have : (s.data.toList.drop (i + 1)).length = s.size - (i + 1) := by rw [List.length_drop, ← Lib.size_eq]
      omega
    have hdK : (s[i] :: s.data.toList.drop (i + 1)).drop (pointL (s[i] :: s.data.toList.drop (i + 1))) = s.data.toList.drop (i + K) := by
      rw [← h2, ← hdr, List.drop_drop]
    have hK1 : 1 ≤ K := by omega
    have skip : ∀ rem2, r ≠ 10 → (rem = true ∨ s[i].toNat = 32 ∨ s[i].toNat = 9 ∨ s[i].toNat = 13 ∨ s[i].toNat = 35) → ¬ s[i].toNat = 10 → rem2 = (rem || decide (s[i].toNat = 35)) → InvX s T (i + K) l (if r = 10 then line + 1 else line) (if r = 10 then 1 else col + 1) (-1) al ac rem2 := fun rem2 hr hc h10 he => by
      rw [lexF_skip hp h10 hc, hdK] at hT
      rw [if_neg hr, if_neg hr, he]
      exact ⟨hle, by omega, .inl ⟨rfl, hT⟩⟩
    have b10 : r = 10 ↔ s[i].toNat = 10 := by omega
    by_cases c10 : r = 10
    · have hc := b10.1 c10
      have hK : K = 1 := by omega
      rw [lexF_feed hc] at hT
      subst hK
      subst c10
      refine (step_feed i hi hs' hS).mono ?_
      rintro e w' ⟨rfl, h⟩
      exact .inr ⟨rfl, _, _, _, _, _, _, h, hle, by omega, .inl ⟨rfl, hT⟩⟩
    · have hc10 : ¬ s[i].toNat = 10 := fun h => c10 (b10.2 h)
      have ri10 : ¬ (r : Int) = 10 := by omega
      cases rem with
      | true =>
        refine (step_rem i hi hs' hS r ri10 hr65).mono ?_
        rintro e w' ⟨rfl, rfl⟩
        exact .inr ⟨rfl, _, _, _, _, _, _, hS, skip true c10 (.inl rfl) hc10 rfl⟩
      | false =>
        by_cases cb : isBlank (r : Int) = true
        · have cb' : (r = 32 ∨ r = 9 ∨ r = 13) := by
            unfold isBlank at cb
            simp only [Bool.or_eq_true, decide_eq_true_eq] at cb
            omega
          have hc : s[i].toNat = 32 ∨ s[i].toNat = 9 ∨ s[i].toNat = 13 := by omega
          refine (step_blank i hi hs' hS r ri10 (by omega) cb).mono ?_
          rintro e w' ⟨rfl, rfl⟩
          exact .inr ⟨rfl, _, _, _, _, _, _, hS, skip false c10 (by omega) hc10 (by simp; omega)⟩
        · have cb' : isBlank (r : Int) = false := by simpa using cb
          by_cases c35 : r = 35
          · have hc : s[i].toNat = 35 := by omega
            subst c35
            refine (step_hash i hi hs' hS).mono ?_
            rintro e w' ⟨rfl, h⟩
            exact .inr ⟨rfl, _, _, _, _, _, _, h, skip true c10 (by omega) hc10 (by simp [hc])⟩
          · have hno : ¬ (s[i].toNat = 32 ∨ s[i].toNat = 9 ∨ s[i].toNat = 13 ∨ s[i].toNat = 35) := by
              have q : ¬ (r = 32 ∨ r = 9 ∨ r = 13) := by
                unfold isBlank at cb'
                simp only [Bool.or_eq_false_iff, decide_eq_false_iff_not] at cb'
                omega
              omega
            have han := an_rune (c := s[i]) (r := r) (by omega)
            by_cases hm : isLet (r : Int) = true ∨ isDig (r : Int) = true ∨ (decide ((s.get! i).toNat = 45) && headDig (s.data.toList.drop (i + 1))) = true
            · have hbeg : begB (s[i] :: s.data.toList.drop (i + 1)) = true := by
                rw [hg] at hm
                rcases hm with h | h | h
                · simp only [begB, ← han, h, Bool.true_or]
                · simp only [begB, ← han, h, Bool.or_true, Bool.true_or]
                · simp only [begB, h, Bool.or_true]
              obtain ⟨a1, a2, a3, a4, a5, a6, a7⟩ := beg_ascii hbeg
              have hK : K = 1 := by omega
              rw [lexF_run hbeg] at hT
              refine (stepS_run i hi hs' hS r ri10 (by omega) (by omega) cb' hm).mono ?_
              rintro e w' ⟨rfl, h⟩
              refine .inr ⟨rfl, _, _, _, _, _, _, h, hle, by omega, .inr ⟨i, [s[i]], rfl, by omega, rfl, ?_, ?_, ?_, ?_, ?_, ?_⟩⟩
              · rw [hK]; exact hdr
              · rw [hK]; simp
              · refine ⟨s[i], [], rfl, fun d hd => by simp at hd, ?_⟩
                simp only [begB, Bool.or_eq_true, Bool.and_eq_true, decide_eq_true_eq] at hbeg
                rcases hbeg with h | h
                · exact .inr h
                · exact .inl h.1
              · rw [if_neg c10]
              · rw [if_neg c10]; rfl
              · rw [hK]; exact ⟨hT, hl⟩
            · have m1 : isLet (r : Int) = false := by cases h : isLet (r : Int); rfl; exact absurd (.inl h) hm
              have m2 : isDig (r : Int) = false := by cases h : isDig (r : Int); rfl; exact absurd (.inr (.inl h)) hm
              have m3 : (decide ((s.get! i).toNat = 45) && headDig (s.data.toList.drop (i + 1))) = false := by cases h : (decide ((s.get! i).toNat = 45) && headDig (s.data.toList.drop (i + 1))); rfl; exact absurd (.inr (.inr h)) hm
              by_cases c58 : r = 58
              · have hc : s[i].toNat = 58 := by omega
                have hK : K = 1 := by omega
                subst c58
                refine (step_colon i hi hs' hS (by omega) m3).mono ?_
                rintro e w' ⟨rfl, R2, h⟩
                rw [lexF_colon hc, LexR.pre_cons] at hT
                refine .inr ⟨rfl, _, _, _, _, _, _, h, hle, by simp; omega, .inl ⟨rfl, ?_⟩⟩
                rw [if_neg c10, if_neg c10, hK]
                exact hT
              · have hbeg : begB (s[i] :: s.data.toList.drop (i + 1)) = false := by
                  rw [hg] at m3
                  simp only [begB, ← han, m1, m2, m3, Bool.or_false]
                refine (step_none i hi hs' hS r ri10 (by omega) (by omega) hr65 cb' m1 m2 m3).mono ?_
                rintro e w' ⟨rfl, rfl⟩
                rw [lexF_none hp hc10 hno (by omega) hbeg] at hT
                exact .inl ⟨rfl, hT, _, hS⟩
end
end Go.Proofs.YtklomjpnmmaogaaDoor
