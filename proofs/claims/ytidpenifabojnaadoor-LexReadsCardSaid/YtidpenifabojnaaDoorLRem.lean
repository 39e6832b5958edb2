/- What is kept of runes in a remark, plain: each spells one code point. -/
import Derived.Test.YtidpenifabojnaaDoorLI
namespace Go.Proofs.YtidpenifabojnaaDoor
open Go Go.RowKit
set_option linter.unusedVariables false
set_option linter.unusedSimpArgs false
set_option maxRecDepth 100000

def enc (r : Int) : List UInt8 := (Utf8.encode r).data.toList
def okR (r : Int) : Bool := !(decide (r = 10)) && !(enc r == [239, 191, 189])
def remT : List Int → List UInt8
  | [] => []
  | r :: l => (if okR r = true then enc r else []) ++ remT l
def remN : List Int → Nat
  | [] => 0
  | r :: l => (if okR r = true then 1 else 0) + remN l
theorem remT_app : ∀ (l m : List Int), remT (l ++ m) = remT l ++ remT m
  | [], m => rfl
  | r :: l, m => by simp only [List.cons_append, remT, remT_app l m, List.append_assoc]
theorem remN_app : ∀ (l m : List Int), remN (l ++ m) = remN l + remN m
  | [], m => by simp [remN]
  | r :: l, m => by simp only [List.cons_append, remN, remN_app l m, Nat.add_assoc]
theorem cut_u8 {n : Nat} (h : n < 256) : (UInt8.ofNat n).toNat = n := by rw [UInt8.toNat_ofNat']; omega
theorem cont1 {c : UInt8} {r : List UInt8} {lo hi : Nat} (h1 : lo ≤ c.toNat) (h2 : c.toNat ≤ hi) : contL (c :: r) lo hi = true := by simp [contL, h1, h2]
theorem enc_ok {r : Int} (h : okR r = true) : ∃ c q, enc r = c :: q ∧ pointL (c :: q) = q.length + 1 ∧ ¬ c.toNat = 10 := by
  simp only [okR, Bool.and_eq_true, Bool.not_eq_true', decide_eq_false_iff_not, beq_eq_false_iff_ne, ne_eq] at h
  obtain ⟨h10, hne⟩ := h
  have hv : Utf8.valid r = true := by
    cases hv : Utf8.valid r
    · exfalso
      apply hne
      unfold enc Utf8.encode
      dsimp only
      generalize hc : (if Utf8.valid r = true then r.toNat else Utf8.runeError) = c
      have hc' : c = 65533 := by rw [← hc, if_neg (by rw [hv]; decide)]; rfl
      subst hc'
      decide
    · rfl
  have hv' : 0 ≤ r ∧ r < 55296 ∨ 57344 ≤ r ∧ r ≤ 1114111 := by
    unfold Utf8.valid at hv
    simp only [Bool.and_eq_true, Bool.or_eq_true, decide_eq_true_eq] at hv
    omega
  obtain ⟨n, rfl⟩ : ∃ n : Nat, r = n := ⟨r.toNat, by omega⟩
  unfold enc Utf8.encode
  rw [if_pos hv]
  dsimp only
  rw [Int.toNat_natCast]
  have hn : n < 55296 ∨ 57344 ≤ n ∧ n ≤ 1114111 := by omega
  have hn10 : ¬ n = 10 := by omega
  clear hne h10 hv hv'
  by_cases c1 : n < 128
  · rw [if_pos c1]
    refine ⟨UInt8.ofNat n, [], rfl, ?_, ?_⟩
    · rw [point_ascii (by rw [cut_u8 (by omega)]; exact c1)]; rfl
    · rw [cut_u8 (by omega)]; exact hn10
  · rw [if_neg c1]
    by_cases c2 : n < 2048
    · rw [if_pos c2]
      have e0 : (UInt8.ofNat (192 + n / 64)).toNat = 192 + n / 64 := cut_u8 (by omega)
      have e1 : (UInt8.ofNat (128 + n % 64)).toNat = 128 + n % 64 := cut_u8 (by omega)
      refine ⟨_, _, rfl, ?_, by rw [e0]; omega⟩
      show pointC _ _ = _
      unfold pointC
      rw [e0, if_neg (by omega), if_pos (by omega), if_pos (cont1 (by rw [e1]; omega) (by rw [e1]; omega))]
      rfl
    · rw [if_neg c2]
      by_cases c3 : n < 65536
      · rw [if_pos c3]
        have e0 : (UInt8.ofNat (224 + n / 4096)).toNat = 224 + n / 4096 := cut_u8 (by omega)
        have e1 : (UInt8.ofNat (128 + n / 64 % 64)).toNat = 128 + n / 64 % 64 := cut_u8 (by omega)
        have e2 : (UInt8.ofNat (128 + n % 64)).toNat = 128 + n % 64 := cut_u8 (by omega)
        refine ⟨_, _, rfl, ?_, by rw [e0]; omega⟩
        show pointC _ _ = _
        unfold pointC
        rw [e0, if_neg (by omega), if_neg (by omega), if_pos (by omega), if_pos ⟨cont1 (by rw [e1]; split <;> omega) (by rw [e1]; split <;> omega), cont1 (by rw [e2]; omega) (by rw [e2]; omega)⟩]
        rfl
      · rw [if_neg c3]
        have e0 : (UInt8.ofNat (240 + n / 262144)).toNat = 240 + n / 262144 := cut_u8 (by omega)
        have e1 : (UInt8.ofNat (128 + n / 4096 % 64)).toNat = 128 + n / 4096 % 64 := cut_u8 (by omega)
        have e2 : (UInt8.ofNat (128 + n / 64 % 64)).toNat = 128 + n / 64 % 64 := cut_u8 (by omega)
        have e3 : (UInt8.ofNat (128 + n % 64)).toNat = 128 + n % 64 := cut_u8 (by omega)
        refine ⟨_, _, rfl, ?_, by rw [e0]; omega⟩
        show pointC _ _ = _
        unfold pointC
        rw [e0, if_neg (by omega), if_neg (by omega), if_neg (by omega), if_pos (by omega), if_pos ⟨cont1 (by rw [e1]; split <;> omega) (by rw [e1]; split <;> omega), cont1 (by rw [e2]; omega) (by rw [e2]; omega), cont1 (by rw [e3]; omega) (by rw [e3]; omega)⟩]
        rfl
theorem enc_val {r : Int} (h : okR r = true) : ValN (enc r) 1 := by
  obtain ⟨c, q, e, hp, hc⟩ := enc_ok h
  rw [e]
  refine .cons (by rw [hp]; omega) hc ?_
  rw [hp, List.drop_eq_nil_of_le (by simp)]
  exact .nil
theorem rem_val : ∀ l : List Int, ValN (remT l) (remN l)
  | [] => .nil
  | r :: l => by
    simp only [remT, remN]
    cases h : okR r
    · simp only [Bool.false_eq_true, if_false, List.nil_append, Nat.zero_add]
      exact rem_val l
    · simp only [if_true]
      exact val_app (enc_val h) (rem_val l)
theorem enc_len (r : Int) : (enc r).length ≤ 4 := by
  unfold enc Utf8.encode
  dsimp only
  generalize (if Utf8.valid r = true then r.toNat else Utf8.runeError) = c
  by_cases c1 : c < 128
  · rw [if_pos c1]; exact (show (1 : Nat) ≤ 4 by decide)
  · rw [if_neg c1]
    by_cases c2 : c < 2048
    · rw [if_pos c2]; exact (show (2 : Nat) ≤ 4 by decide)
    · rw [if_neg c2]
      by_cases c3 : c < 65536
      · rw [if_pos c3]; exact (show (3 : Nat) ≤ 4 by decide)
      · rw [if_neg c3]; exact (show (4 : Nat) ≤ 4 by decide)
theorem remT_len : ∀ l : List Int, (remT l).length ≤ 4 * l.length
  | [] => by simp [remT]
  | r :: l => by
    have h1 := remT_len l
    have h2 := enc_len r
    simp only [remT, List.length_append, List.length_cons]
    split
    · omega
    · simp; omega
/-- The tokens of a remark: its end alone. -/
theorem lex_rems (l : List Int) (hl : l.length ≤ 60) : lexT (35 :: remT l) = .ok [⟨3, [], 0, 1, remN l + 2⟩] := by
  have h := remT_len l
  unfold lexT
  rw [if_neg (by simp; omega)]
  have := lex_remark (rem_val l) 1 1 false []
  rw [List.append_nil] at this
  rw [this, lexF_nil]
  rw [show 1 + 1 + remN l = remN l + 2 by omega]
theorem remN_le : ∀ l : List Int, remN l ≤ l.length
  | [] => Nat.le_refl _
  | r :: l => by
    have := remN_le l
    simp only [remN, List.length_cons]
    split <;> omega
theorem take_snoc {l : List Int} {k : Nat} {x : Int} (h : l[k]? = some x) : l.take (k + 1) = l.take k ++ [x] := by
  rw [List.take_add_one, h]
  rfl
theorem bytes_app (a b : List UInt8) : (⟨a.toArray⟩ : ByteArray) ++ ⟨b.toArray⟩ = ⟨(a ++ b).toArray⟩ := by
  apply ByteArray.ext
  simp [ByteArray.data_append]
theorem str_eq (x : Int) : ((Utf8.encode x).toList == (⟨#[239, 191, 189]⟩ : ByteArray).toList) = (enc x == [239, 191, 189]) := by
  rw [Lib.toList_data, Lib.toList_data]
  rfl
theorem enc_bytes (r : Int) : Utf8.encode r = ⟨(enc r).toArray⟩ := rfl
end Go.Proofs.YtidpenifabojnaaDoor
