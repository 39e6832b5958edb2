/- How a code point begins: the decoding of the model, and the document's. -/
import Derived.Test.YtklomjpnmmaogaaDoorLB0
import Derived.Laws.RangeAny
namespace Go.Proofs.YtklomjpnmmaogaaDoor
open Go Go.RowKit
set_option linter.unusedVariables false
set_option linter.unusedSimpArgs false
set_option maxRecDepth 100000

theorem cont_at (s : ByteArray) (i lo hi : Nat) : contL (s.data.toList.drop i) lo hi = (decide (i < s.size) && (decide (lo ≤ (s.get! i).toNat) && decide ((s.get! i).toNat ≤ hi))) := by
  by_cases h : i < s.size
  · rw [get_drop s i h, get_get s i h]
    simp [contL, h]
  · rw [List.drop_eq_nil_of_le (by simpa using h)]
    simp [contL, h]
/-- What the document says of the code point at a place, number by number. -/
theorem point_at (s : ByteArray) (i : Nat) (h : i < s.size) : pointL (s.data.toList.drop i) =
    if (s.get! i).toNat < 128 then 1
    else if 194 ≤ (s.get! i).toNat ∧ (s.get! i).toNat ≤ 223 then (if (i + 1 < s.size ∧ 128 ≤ (s.get! (i + 1)).toNat ∧ (s.get! (i + 1)).toNat ≤ 191) then 2 else 0)
    else if 224 ≤ (s.get! i).toNat ∧ (s.get! i).toNat ≤ 239 then (if ((i + 1 < s.size ∧ (if (s.get! i).toNat = 224 then 160 else 128) ≤ (s.get! (i + 1)).toNat ∧ (s.get! (i + 1)).toNat ≤ (if (s.get! i).toNat = 237 then 159 else 191)) ∧ (i + 2 < s.size ∧ 128 ≤ (s.get! (i + 2)).toNat ∧ (s.get! (i + 2)).toNat ≤ 191)) then 3 else 0)
    else if 240 ≤ (s.get! i).toNat ∧ (s.get! i).toNat ≤ 244 then (if ((i + 1 < s.size ∧ (if (s.get! i).toNat = 240 then 144 else 128) ≤ (s.get! (i + 1)).toNat ∧ (s.get! (i + 1)).toNat ≤ (if (s.get! i).toNat = 244 then 143 else 191)) ∧ (i + 2 < s.size ∧ 128 ≤ (s.get! (i + 2)).toNat ∧ (s.get! (i + 2)).toNat ≤ 191) ∧ (i + 3 < s.size ∧ 128 ≤ (s.get! (i + 3)).toNat ∧ (s.get! (i + 3)).toNat ≤ 191)) then 4 else 0)
    else 0 := by
  rw [get_get s i h]
  rw [get_drop s i h]
  show pointC _ _ = _
  unfold pointC
  simp only [List.drop_drop, cont_at, Bool.and_eq_true, decide_eq_true_eq, Nat.add_assoc]
/-- The decoding of the model, number by number. -/
def decV (c : Nat) : Prop := (0 ≤ (c : Int) ∧ (c : Int) < 55296) ∨ (57344 ≤ (c : Int) ∧ (c : Int) ≤ 1114111)
instance (c : Nat) : Decidable (decV c) := by unfold decV; infer_instance
def decN (n i b0 b1 b2 b3 : Nat) : Nat × Nat :=
  if b0 < 128 then (b0, 1)
  else if b0 / 32 = 6 ∧ (i + 1 < n ∧ b1 / 64 = 2) then (if 128 ≤ b0 % 32 * 64 + b1 % 64 then (b0 % 32 * 64 + b1 % 64, 2) else (65533, 1))
  else if (b0 / 16 = 14 ∧ (i + 1 < n ∧ b1 / 64 = 2)) ∧ (i + 2 < n ∧ b2 / 64 = 2) then (if 2048 ≤ b0 % 16 * 4096 + b1 % 64 * 64 + b2 % 64 ∧ decV (b0 % 16 * 4096 + b1 % 64 * 64 + b2 % 64) then (b0 % 16 * 4096 + b1 % 64 * 64 + b2 % 64, 3) else (65533, 1))
  else if ((b0 / 8 = 30 ∧ (i + 1 < n ∧ b1 / 64 = 2)) ∧ (i + 2 < n ∧ b2 / 64 = 2)) ∧ (i + 3 < n ∧ b3 / 64 = 2) then (if 65536 ≤ b0 % 8 * 262144 + b1 % 64 * 4096 + b2 % 64 * 64 + b3 % 64 ∧ decV (b0 % 8 * 262144 + b1 % 64 * 4096 + b2 % 64 * 64 + b3 % 64) then (b0 % 8 * 262144 + b1 % 64 * 4096 + b2 % 64 * 64 + b3 % 64, 4) else (65533, 1))
  else (65533, 1)
def ptN (n i b0 b1 b2 b3 : Nat) : Nat :=
  if b0 < 128 then 1
  else if 194 ≤ b0 ∧ b0 ≤ 223 then (if (i + 1 < n ∧ 128 ≤ b1 ∧ b1 ≤ 191) then 2 else 0)
  else if 224 ≤ b0 ∧ b0 ≤ 239 then (if ((i + 1 < n ∧ (if b0 = 224 then 160 else 128) ≤ b1 ∧ b1 ≤ (if b0 = 237 then 159 else 191)) ∧ (i + 2 < n ∧ 128 ≤ b2 ∧ b2 ≤ 191)) then 3 else 0)
  else if 240 ≤ b0 ∧ b0 ≤ 244 then (if ((i + 1 < n ∧ (if b0 = 240 then 144 else 128) ≤ b1 ∧ b1 ≤ (if b0 = 244 then 143 else 191)) ∧ (i + 2 < n ∧ 128 ≤ b2 ∧ b2 ≤ 191) ∧ (i + 3 < n ∧ 128 ≤ b3 ∧ b3 ≤ 191)) then 4 else 0)
  else 0
theorem valid_V (c : Nat) : Utf8.valid (c : Int) = true ↔ decV c := by
  unfold Utf8.valid decV
  simp only [Bool.and_eq_true, Bool.or_eq_true, decide_eq_true_eq]
theorem decode_N (s : ByteArray) (i : Nat) : Utf8.decode s i = decN s.size i (s.get! (i + 0)).toNat (s.get! (i + 1)).toNat (s.get! (i + 2)).toNat (s.get! (i + 3)).toNat := by
  unfold Utf8.decode decN
  dsimp only
  have k1 : ∀ k b : Nat, ((decide (i + k < s.size) && b / 64 == 2) = true) ↔ (i + k < s.size ∧ b / 64 = 2) := fun k b => by simp only [Bool.and_eq_true, beq_iff_eq, decide_eq_true_eq]
  by_cases c0 : (s.get! (i + 0)).toNat < 128
  · rw [if_pos c0, if_pos c0]
  · rw [if_neg c0, if_neg c0]
    by_cases c1 : (s.get! (i + 0)).toNat / 32 = 6 ∧ (i + 1 < s.size ∧ (s.get! (i + 1)).toNat / 64 = 2)
    · rw [if_pos c1, if_pos (by rw [Bool.and_eq_true, k1, beq_iff_eq]; exact c1)]
      by_cases q : 128 ≤ (s.get! (i + 0)).toNat % 32 * 64 + (s.get! (i + 1)).toNat % 64
      · rw [if_pos q, if_pos q]
      · rw [if_neg q, if_neg q]; rfl
    · rw [if_neg c1, if_neg (by rw [Bool.and_eq_true, k1, beq_iff_eq]; exact c1)]
      by_cases c2 : ((s.get! (i + 0)).toNat / 16 = 14 ∧ (i + 1 < s.size ∧ (s.get! (i + 1)).toNat / 64 = 2)) ∧ (i + 2 < s.size ∧ (s.get! (i + 2)).toNat / 64 = 2)
      · rw [if_pos c2, if_pos (by rw [Bool.and_eq_true, Bool.and_eq_true, k1, k1, beq_iff_eq]; exact c2)]
        by_cases q : 2048 ≤ (s.get! (i + 0)).toNat % 16 * 4096 + (s.get! (i + 1)).toNat % 64 * 64 + (s.get! (i + 2)).toNat % 64 ∧ decV ((s.get! (i + 0)).toNat % 16 * 4096 + (s.get! (i + 1)).toNat % 64 * 64 + (s.get! (i + 2)).toNat % 64)
        · rw [if_pos q, if_pos (by rw [Bool.and_eq_true, decide_eq_true_eq, valid_V]; exact q)]
        · rw [if_neg q, if_neg (by rw [Bool.and_eq_true, decide_eq_true_eq, valid_V]; exact q)]; rfl
      · rw [if_neg c2, if_neg (by rw [Bool.and_eq_true, Bool.and_eq_true, k1, k1, beq_iff_eq]; exact c2)]
        by_cases c3 : (((s.get! (i + 0)).toNat / 8 = 30 ∧ (i + 1 < s.size ∧ (s.get! (i + 1)).toNat / 64 = 2)) ∧ (i + 2 < s.size ∧ (s.get! (i + 2)).toNat / 64 = 2)) ∧ (i + 3 < s.size ∧ (s.get! (i + 3)).toNat / 64 = 2)
        · rw [if_pos c3, if_pos (by rw [Bool.and_eq_true, Bool.and_eq_true, Bool.and_eq_true, k1, k1, k1, beq_iff_eq]; exact c3)]
          by_cases q : 65536 ≤ (s.get! (i + 0)).toNat % 8 * 262144 + (s.get! (i + 1)).toNat % 64 * 4096 + (s.get! (i + 2)).toNat % 64 * 64 + (s.get! (i + 3)).toNat % 64 ∧ decV ((s.get! (i + 0)).toNat % 8 * 262144 + (s.get! (i + 1)).toNat % 64 * 4096 + (s.get! (i + 2)).toNat % 64 * 64 + (s.get! (i + 3)).toNat % 64)
          · rw [if_pos q, if_pos (by rw [Bool.and_eq_true, decide_eq_true_eq, valid_V]; exact q)]
          · rw [if_neg q, if_neg (by rw [Bool.and_eq_true, decide_eq_true_eq, valid_V]; exact q)]; rfl
        · rw [if_neg c3, if_neg (by rw [Bool.and_eq_true, Bool.and_eq_true, Bool.and_eq_true, k1, k1, k1, beq_iff_eq]; exact c3)]; rfl
/-- What the two say of each other. -/
def DP (n i b0 b1 b2 b3 : Nat) : Prop :=
  (ptN n i b0 b1 b2 b3 = 0 ∧ decN n i b0 b1 b2 b3 = (65533, 1) ∧ ¬ (b0 = 239 ∧ (i + 1 < n ∧ b1 = 191) ∧ (i + 2 < n ∧ b2 = 189))) ∨
    (∃ c, ¬ ptN n i b0 b1 b2 b3 = 0 ∧ decN n i b0 b1 b2 b3 = (c, ptN n i b0 b1 b2 b3) ∧ (c = 65533 → (b0 = 239 ∧ (i + 1 < n ∧ b1 = 191) ∧ (i + 2 < n ∧ b2 = 189))))
section
variable {n i b0 b1 b2 b3 : Nat}
theorem cont_iff {b : Nat} {p : Prop} : (p ∧ b / 64 = 2) ↔ (p ∧ 128 ≤ b ∧ b ≤ 191) := by
  have : b / 64 = 2 ↔ 128 ≤ b ∧ b ≤ 191 := by omega
  rw [this]
theorem dp1 (h : b0 < 128) : DP n i b0 b1 b2 b3 := by
  refine .inr ⟨b0, ?_, ?_, fun h => by omega⟩
  · unfold ptN; rw [if_pos h]; decide
  · unfold ptN decN; rw [if_pos h, if_pos h]
theorem dp2 (h : 194 ≤ b0 ∧ b0 ≤ 223) : DP n i b0 b1 b2 b3 := by
  have h0 : ¬ b0 < 128 := by omega
  have h6 : b0 / 32 = 6 := by omega
  have h14 : ¬ b0 / 16 = 14 := by omega
  have h30 : ¬ b0 / 8 = 30 := by omega
  by_cases d : i + 1 < n ∧ 128 ≤ b1 ∧ b1 ≤ 191
  · refine .inr ⟨b0 % 32 * 64 + b1 % 64, ?_, ?_, fun h => by omega⟩
    · unfold ptN; rw [if_neg h0, if_pos h, if_pos d]; decide
    · unfold ptN decN
      rw [if_neg h0, if_neg h0, if_pos h, if_pos d, if_pos ⟨h6, cont_iff.2 d⟩, if_pos (by omega)]
  · refine .inl ⟨?_, ?_, by omega⟩
    · unfold ptN; rw [if_neg h0, if_pos h, if_neg d]
    · unfold decN
      rw [if_neg h0, if_neg (fun q => d (cont_iff.1 q.2)), if_neg (fun q => h14 q.1.1), if_neg (fun q => h30 q.1.1.1)]
theorem lo3 {b0 b1 b2 : Nat} (h : 224 ≤ b0 ∧ b0 ≤ 239) (h1 : 128 ≤ b1 ∧ b1 ≤ 191) (h2 : 128 ≤ b2 ∧ b2 ≤ 191) :
    (2048 ≤ b0 % 16 * 4096 + b1 % 64 * 64 + b2 % 64 ∧ decV (b0 % 16 * 4096 + b1 % 64 * 64 + b2 % 64)) ↔ ((if b0 = 224 then 160 else 128) ≤ b1 ∧ b1 ≤ (if b0 = 237 then 159 else 191)) := by
  obtain ⟨y, rfl⟩ : ∃ y, b0 = 224 + y := ⟨b0 - 224, by omega⟩
  obtain ⟨x, rfl⟩ : ∃ x, b1 = 128 + x := ⟨b1 - 128, by omega⟩
  obtain ⟨z, rfl⟩ : ∃ z, b2 = 128 + z := ⟨b2 - 128, by omega⟩
  rw [show (224 + y) % 16 = y by omega, show (128 + x) % 64 = x by omega, show (128 + z) % 64 = z by omega]
  unfold decV
  have hx : x ≤ 63 := by omega
  have hz : z ≤ 63 := by omega
  have hy : y ≤ 15 := by omega
  clear h h1 h2
  by_cases e1 : y = 0
  · subst e1
    simp only [Nat.add_zero, if_true, show ¬ (224 : Nat) = 237 by decide, if_false]
    omega
  · by_cases e2 : y = 13
    · subst e2
      simp only [show ¬ (224 + 13 : Nat) = 224 by decide, if_false, if_true]
      omega
    · rw [if_neg (by omega), if_neg (by omega)]
      omega
theorem lo4 {b0 b1 b2 b3 : Nat} (h : 240 ≤ b0 ∧ b0 ≤ 247) (h1 : 128 ≤ b1 ∧ b1 ≤ 191) (h2 : 128 ≤ b2 ∧ b2 ≤ 191) (h3 : 128 ≤ b3 ∧ b3 ≤ 191) :
    (65536 ≤ b0 % 8 * 262144 + b1 % 64 * 4096 + b2 % 64 * 64 + b3 % 64 ∧ decV (b0 % 8 * 262144 + b1 % 64 * 4096 + b2 % 64 * 64 + b3 % 64)) ↔ (b0 ≤ 244 ∧ (if b0 = 240 then 144 else 128) ≤ b1 ∧ b1 ≤ (if b0 = 244 then 143 else 191)) := by
  obtain ⟨y, rfl⟩ : ∃ y, b0 = 240 + y := ⟨b0 - 240, by omega⟩
  obtain ⟨x, rfl⟩ : ∃ x, b1 = 128 + x := ⟨b1 - 128, by omega⟩
  obtain ⟨z, rfl⟩ : ∃ z, b2 = 128 + z := ⟨b2 - 128, by omega⟩
  obtain ⟨v, rfl⟩ : ∃ v, b3 = 128 + v := ⟨b3 - 128, by omega⟩
  rw [show (240 + y) % 8 = y by omega, show (128 + x) % 64 = x by omega, show (128 + z) % 64 = z by omega, show (128 + v) % 64 = v by omega]
  unfold decV
  have hx : x ≤ 63 := by omega
  have hz : z ≤ 63 := by omega
  have hv : v ≤ 63 := by omega
  have hy : y ≤ 7 := by omega
  clear h h1 h2 h3
  by_cases e1 : y = 0
  · subst e1
    simp only [Nat.add_zero, if_true, show ¬ (240 : Nat) = 244 by decide, if_false]
    omega
  · by_cases e2 : y = 4
    · subst e2
      simp only [show ¬ (240 + 4 : Nat) = 240 by decide, if_false, if_true]
      omega
    · rw [if_neg (by omega), if_neg (by omega)]
      omega
theorem dp3 (h : 224 ≤ b0 ∧ b0 ≤ 239) : DP n i b0 b1 b2 b3 := by
  have h0 : ¬ b0 < 128 := by omega
  have h2 : ¬ (194 ≤ b0 ∧ b0 ≤ 223) := by omega
  have h6 : ¬ b0 / 32 = 6 := by omega
  have h14 : b0 / 16 = 14 := by omega
  have h30 : ¬ b0 / 8 = 30 := by omega
  by_cases d : (i + 1 < n ∧ 128 ≤ b1 ∧ b1 ≤ 191) ∧ (i + 2 < n ∧ 128 ≤ b2 ∧ b2 ≤ 191)
  · obtain ⟨⟨d1, d2⟩, d3, d4⟩ := d
    by_cases q : 2048 ≤ b0 % 16 * 4096 + b1 % 64 * 64 + b2 % 64 ∧ decV (b0 % 16 * 4096 + b1 % 64 * 64 + b2 % 64)
    · have q' := (lo3 h d2 d4).1 q
      have hp : ptN n i b0 b1 b2 b3 = 3 := by unfold ptN; rw [if_neg h0, if_neg h2, if_pos h, if_pos ⟨⟨d1, q'⟩, d3, d4⟩]
      refine .inr ⟨b0 % 16 * 4096 + b1 % 64 * 64 + b2 % 64, ?_, ?_, fun e => ?_⟩
      · rw [hp]; decide
      · rw [hp]
        unfold decN
        rw [if_neg h0, if_neg (fun z => h6 z.1), if_pos ⟨⟨h14, cont_iff.2 ⟨d1, d2⟩⟩, cont_iff.2 ⟨d3, d4⟩⟩, if_pos q]
      · omega
    · have q' : ¬ _ := fun z => q ((lo3 h d2 d4).2 z)
      refine .inl ⟨?_, ?_, fun e => q ?_⟩
      · unfold ptN; rw [if_neg h0, if_neg h2, if_pos h, if_neg (fun z => q' z.1.2)]
      · unfold decN
        rw [if_neg h0, if_neg (fun z => h6 z.1), if_pos ⟨⟨h14, cont_iff.2 ⟨d1, d2⟩⟩, cont_iff.2 ⟨d3, d4⟩⟩, if_neg q]
      · obtain ⟨rfl, ⟨_, rfl⟩, _, rfl⟩ := e
        decide
  · refine .inl ⟨?_, ?_, fun e => d ⟨⟨e.2.1.1, by omega⟩, e.2.2.1, by omega⟩⟩
    · unfold ptN
      rw [if_neg h0, if_neg h2, if_pos h, if_neg]
      intro z
      obtain ⟨⟨z1, z2, z3⟩, z4⟩ := z
      exact d ⟨⟨z1, by split at z2 <;> omega, by split at z3 <;> omega⟩, z4⟩
    · unfold decN
      rw [if_neg h0, if_neg (fun z => h6 z.1), if_neg (fun z => d ⟨cont_iff.1 z.1.2, cont_iff.1 z.2⟩), if_neg (fun z => h30 z.1.1.1)]
theorem dp4 (h : 240 ≤ b0 ∧ b0 ≤ 247) : DP n i b0 b1 b2 b3 := by
  have h0 : ¬ b0 < 128 := by omega
  have h2 : ¬ (194 ≤ b0 ∧ b0 ≤ 223) := by omega
  have h3 : ¬ (224 ≤ b0 ∧ b0 ≤ 239) := by omega
  have h6 : ¬ b0 / 32 = 6 := by omega
  have h14 : ¬ b0 / 16 = 14 := by omega
  have h30 : b0 / 8 = 30 := by omega
  by_cases d : ((i + 1 < n ∧ 128 ≤ b1 ∧ b1 ≤ 191) ∧ (i + 2 < n ∧ 128 ≤ b2 ∧ b2 ≤ 191)) ∧ (i + 3 < n ∧ 128 ≤ b3 ∧ b3 ≤ 191)
  · obtain ⟨⟨⟨d1, d2⟩, d3, d4⟩, d5, d6⟩ := d
    by_cases q : 65536 ≤ b0 % 8 * 262144 + b1 % 64 * 4096 + b2 % 64 * 64 + b3 % 64 ∧ decV (b0 % 8 * 262144 + b1 % 64 * 4096 + b2 % 64 * 64 + b3 % 64)
    · have q' := (lo4 h d2 d4 d6).1 q
      have hp : ptN n i b0 b1 b2 b3 = 4 := by unfold ptN; rw [if_neg h0, if_neg h2, if_neg h3, if_pos ⟨h.1, q'.1⟩, if_pos ⟨⟨d1, q'.2⟩, ⟨d3, d4⟩, d5, d6⟩]
      refine .inr ⟨b0 % 8 * 262144 + b1 % 64 * 4096 + b2 % 64 * 64 + b3 % 64, ?_, ?_, fun e => by omega⟩
      · rw [hp]; decide
      · rw [hp]
        unfold decN
        rw [if_neg h0, if_neg (fun z => h6 z.1), if_neg (fun z => h14 z.1.1), if_pos ⟨⟨⟨h30, cont_iff.2 ⟨d1, d2⟩⟩, cont_iff.2 ⟨d3, d4⟩⟩, cont_iff.2 ⟨d5, d6⟩⟩, if_pos q]
    · have q' : ¬ _ := fun z => q ((lo4 h d2 d4 d6).2 z)
      refine .inl ⟨?_, ?_, by omega⟩
      · unfold ptN
        rw [if_neg h0, if_neg h2, if_neg h3]
        by_cases z : 240 ≤ b0 ∧ b0 ≤ 244
        · rw [if_pos z, if_neg (fun y => q' ⟨z.2, y.1.2⟩)]
        · rw [if_neg z]
      · unfold decN
        rw [if_neg h0, if_neg (fun z => h6 z.1), if_neg (fun z => h14 z.1.1), if_pos ⟨⟨⟨h30, cont_iff.2 ⟨d1, d2⟩⟩, cont_iff.2 ⟨d3, d4⟩⟩, cont_iff.2 ⟨d5, d6⟩⟩, if_neg q]
  · refine .inl ⟨?_, ?_, by omega⟩
    · unfold ptN
      rw [if_neg h0, if_neg h2, if_neg h3]
      by_cases z : 240 ≤ b0 ∧ b0 ≤ 244
      · rw [if_pos z, if_neg]
        intro y
        obtain ⟨⟨z1, z2, z3⟩, z4, z5⟩ := y
        exact d ⟨⟨⟨z1, by split at z2 <;> omega, by split at z3 <;> omega⟩, z4⟩, z5⟩
      · rw [if_neg z]
    · unfold decN
      rw [if_neg h0, if_neg (fun z => h6 z.1), if_neg (fun z => h14 z.1.1), if_neg (fun z => d ⟨⟨cont_iff.1 z.1.1.2, cont_iff.1 z.1.2⟩, cont_iff.1 z.2⟩)]
theorem dp0 (h : ¬ b0 < 128) (h2 : ¬ (194 ≤ b0 ∧ b0 ≤ 223)) (h3 : ¬ (224 ≤ b0 ∧ b0 ≤ 239)) (h4 : ¬ (240 ≤ b0 ∧ b0 ≤ 247)) (hb : b0 < 256) : DP n i b0 b1 b2 b3 := by
  refine .inl ⟨?_, ?_, by omega⟩
  · unfold ptN
    rw [if_neg h, if_neg h2, if_neg h3, if_neg (by omega)]
  · unfold decN
    rw [if_neg h]
    by_cases q : b0 / 32 = 6 ∧ (i + 1 < n ∧ b1 / 64 = 2)
    · rw [if_pos q, if_neg (by omega)]
    · rw [if_neg q, if_neg (by omega), if_neg (by omega)]
theorem dp_all (hb : b0 < 256) : DP n i b0 b1 b2 b3 := by
  by_cases h1 : b0 < 128
  · exact dp1 h1
  · by_cases h2 : 194 ≤ b0 ∧ b0 ≤ 223
    · exact dp2 h2
    · by_cases h3 : 224 ≤ b0 ∧ b0 ≤ 239
      · exact dp3 h3
      · by_cases h4 : 240 ≤ b0 ∧ b0 ≤ 247
        · exact dp4 h4
        · exact dp0 h1 h2 h3 h4 hb
end
/-- The three bytes that spell the rune which stands for a fault. -/
def Sub3 (s : ByteArray) (i : Nat) : Prop := (s.get! i).toNat = 239 ∧ (i + 1 < s.size ∧ (s.get! (i + 1)).toNat = 191) ∧ (i + 2 < s.size ∧ (s.get! (i + 2)).toNat = 189)
/-- A place at which no code point begins is decoded as a fault of one byte; any other as wide as the document has it. -/
theorem decode_point (s : ByteArray) (i : Nat) (h : i < s.size) :
    (pointL (s.data.toList.drop i) = 0 ∧ Utf8.decode s i = (65533, 1) ∧ ¬ Sub3 s i) ∨
      (∃ c, ¬ pointL (s.data.toList.drop i) = 0 ∧ Utf8.decode s i = (c, pointL (s.data.toList.drop i)) ∧ (c = 65533 → Sub3 s i)) := by
  have e1 : pointL (s.data.toList.drop i) = ptN s.size i (s.get! i).toNat (s.get! (i + 1)).toNat (s.get! (i + 2)).toNat (s.get! (i + 3)).toNat := point_at s i h
  have e2 : Utf8.decode s i = decN s.size i (s.get! i).toNat (s.get! (i + 1)).toNat (s.get! (i + 2)).toNat (s.get! (i + 3)).toNat := decode_N s i
  have := dp_all (n := s.size) (i := i) (b1 := (s.get! (i + 1)).toNat) (b2 := (s.get! (i + 2)).toNat) (b3 := (s.get! (i + 3)).toNat) (s.get! i).toNat_lt
  unfold DP at this
  rw [← e1, ← e2] at this
  exact this
end Go.Proofs.YtklomjpnmmaogaaDoor
