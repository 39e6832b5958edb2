/- The walk of token. -/
import Derived.Test.YtklomjpnmmaogaaDoorLC
import Derived.Test.YtklomjpnmmaogaaDoorLW
namespace Go.Proofs.YtklomjpnmmaogaaDoor
open Go Go.RowKit
set_option linter.unusedVariables false
set_option linter.unusedSimpArgs false
set_option maxRecDepth 100000

/-- A numeral's token. -/
def numT (t : List UInt8) : Int × Int × Int := match Lib.parseIntB 64 t with
  | .ok v => (0, 1, v)
  | _ => (5, 0, 0)
theorem numT_ok {t : List UInt8} {v : Int} (h : Lib.parseIntB 64 t = .ok v) : numT t = (0, 1, v) := by unfold numT; rw [h]
theorem numT_bad {t : List UInt8} (h : ∀ v, Lib.parseIntB 64 t ≠ .ok v) : numT t = (5, 0, 0) := by
  unfold numT
  split
  · next v e => exact absurd e (h v)
  · rfl
theorem idx_from (p : Nat → Bool) (s : ByteArray) (ha : ∀ d ∈ s.data.toList, d.toNat < 128) : ∀ (f pos : Nat), s.size ≤ pos + f → (Lib.idxFuncFrom p true s f pos < 0 ↔ ∀ d ∈ s.data.toList.drop pos, p d.toNat = false)
  | 0, pos, h => by
    rw [List.drop_eq_nil_of_le (by simpa using h)]
    simp [Lib.idxFuncFrom]
  | f + 1, pos, h => by
    by_cases hp : pos < s.size
    · have hc : s[pos].toNat < 128 := ha _ (by have := get_drop s pos hp; exact List.mem_of_mem_drop (this ▸ List.mem_cons_self))
      unfold Lib.idxFuncFrom
      rw [if_pos hp, decode_ascii s pos hp hc, get_drop s pos hp]
      simp only
      by_cases hq : p s[pos].toNat = true
      · rw [if_pos hq]
        refine ⟨fun h => by omega, fun h => ?_⟩
        have := h s[pos] (by simp)
        rw [hq] at this
        cases this
      · rw [if_neg hq, idx_from p s ha f (pos + 1) (by omega)]
        simp only [List.mem_cons, forall_eq_or_imp]
        exact ⟨fun h => ⟨by simpa using hq, h⟩, fun h => h.2⟩
    · rw [List.drop_eq_nil_of_le (by simpa using hp), Lib.idxFuncFrom_end p true s _ pos hp]
      simp
theorem idx_ascii (p : Nat → Bool) (t : List UInt8) (ha : ∀ d ∈ t, d.toNat < 128) : (Lib.idxFunc p true ⟨t.toArray⟩ < 0 ↔ ∀ d ∈ t, p d.toNat = false) := by
  have := idx_from p ⟨t.toArray⟩ (by simpa using ha) (⟨t.toArray⟩ : ByteArray).size 0 (by omega)
  simpa [Lib.idxFunc] using this
theorem let_nat (c : UInt8) : isLet (c.toNat : Int) = letB c := by
  unfold isLet letB
  congr 1 <;> congr 1 <;> simp only [eq_iff_iff] <;> omega
theorem dig_nat (c : UInt8) : isDig (c.toNat : Int) = digB c := by
  unfold isDig digB
  congr 1 <;> congr 1 <;> simp only [eq_iff_iff] <;> omega
theorem idxA_c (t : List UInt8) (w : World) : Calls Tryd.prog 91 #[.string ⟨t.toArray⟩, .func (.func 92) #[] #[]] w fun e w' => e = .returned (.int .i64 (Lib.idxFunc (fun x => !isLet x) true ⟨t.toArray⟩)) ∧ Below w.heap.size w w' :=
  Tryd.strings_IndexFunc_grows 92 #[] (enters_of Tryd.func92 (by kernel_rfl) rfl) (fun x => !isLet x) ⟨t.toArray⟩ w (fun W x _ _ => (tokA_any x W).mono fun e w' ⟨h1, h2⟩ => ⟨h1, by subst h2; exact Below.refl _ _⟩)
theorem idxB_c (t : List UInt8) (w : World) : Calls Tryd.prog 91 #[.string ⟨t.toArray⟩, .func (.func 93) #[] #[]] w fun e w' => e = .returned (.int .i64 (Lib.idxFunc (fun x => !isDig x) true ⟨t.toArray⟩)) ∧ Below w.heap.size w w' :=
  Tryd.strings_IndexFunc_grows 93 #[] (enters_of Tryd.func93 (by kernel_rfl) rfl) (fun x => !isDig x) ⟨t.toArray⟩ w (fun W x _ _ => (tokB_any x W).mono fun e w' ⟨h1, h2⟩ => ⟨h1, by subst h2; exact Below.refl _ _⟩)
theorem runT_ascii {t : List UInt8} (h : RunT t) : ∀ d ∈ t, d.toNat < 128 := by
  obtain ⟨c, r, rfl, h1, h2⟩ := h.out
  intro d hd
  rcases List.mem_cons.1 hd with rfl | hd
  · rcases h2 with h2 | h2
    · omega
    · exact (an_high h2).2
  · exact (an_high (h1 d hd)).2
theorem trim_run {t : List UInt8} (h : RunT t) : (∀ d ∈ Lib.trimPrefix t [45], digB d = true) ↔ t.any letB = false := by
  obtain ⟨c, r, rfl, h1, h2⟩ := h.out
  have e : Lib.trimPrefix (c :: r) [45] = if c = 45 then r else c :: r := by
    unfold Lib.trimPrefix Lib.hasPrefix
    by_cases hc : c = 45
    · subst hc
      simp
    · have : ¬ (45 : UInt8) = c := fun h => hc h.symm
      simp [hc, this]
  have hd : ∀ d : UInt8, anB d = true → (digB d = true ↔ letB d = false) := fun d hd => by
    simp only [anB, Bool.or_eq_true] at hd
    unfold letB digB at *
    simp only [Bool.and_eq_true, decide_eq_true_eq] at hd ⊢
    simp only [Bool.and_eq_false_iff, decide_eq_false_iff_not]
    omega
  rw [e]
  by_cases hc : c = 45
  · subst hc
    rw [if_pos rfl]
    simp only [List.any_cons, Bool.or_eq_false_iff, List.any_eq_false]
    refine ⟨fun h => ⟨by decide, fun d hm => by rw [(hd d (h1 d hm)).1 (h d hm)]; simp⟩, fun h d hm => (hd d (h1 d hm)).2 (by simpa using h.2 d hm)⟩
  · rw [if_neg hc]
    have hc' : anB c = true := by
      rcases h2 with h2 | h2
      · exact absurd (UInt8.toNat_inj.1 h2) hc
      · exact h2
    simp only [List.any_cons, Bool.or_eq_false_iff, List.any_eq_false, List.mem_cons, forall_eq_or_imp]
    refine ⟨fun h => ⟨(hd c hc').1 h.1, fun d hm => by rw [(hd d (h1 d hm)).1 (h.2 d hm)]; simp⟩, fun h => ⟨(hd c hc').2 h.1, fun d hm => (hd d (h1 d hm)).2 (by simpa using h.2 d hm)⟩⟩
/-- Five cells of a block that are written one behind the other. -/
theorem Blk.put5 {w : World} {g : Nat} {t : TypeId} {a b c d e a' b' c' d' e' : Value} (h : Blk w g t #[a, b, c, d, e]) : Blk (((((w.setCell ⟨g, 0, none⟩ a').setCell ⟨g, 1, none⟩ b').setCell ⟨g, 2, none⟩ c').setCell ⟨g, 3, none⟩ d').setCell ⟨g, 4, none⟩ e') g t #[a', b', c', d', e'] :=
  ((((h.put 0 a' rfl).put 1 b' rfl).put 2 c' rfl).put 3 d' rfl).put 4 e' rfl
section
variable (t : List UInt8) (w : World)
theorem trim_c : Calls Tryd.prog 90 #[.string ⟨t.toArray⟩, .string ⟨#[45]⟩] w fun e w' => e = .returned (.string ⟨(Lib.trimPrefix t [45]).toArray⟩) ∧ w' = w := Tryd.strings_TrimPrefix ⟨t.toArray⟩ ⟨#[45]⟩ w
set_option maxHeartbeats 6400000 in
theorem token_any (hr : RunT t) (hs : (⟨t.toArray⟩ : ByteArray).size ≤ 281474976710656) (hw : LexW w) : Calls Tryd.prog 72 #[.string ⟨t.toArray⟩] w fun e w' => e = .returned (.tuple #[.agg #[.int .i64 (tokenL t).2.1, .string (if (tokenL t).1 = 0 then ⟨t.toArray⟩ else ⟨#[]⟩), .int .i64 (tokenL t).2.2, .int .i64 0, .int .i64 0], .int .i64 (tokenL t).1]) ∧ Below w.heap.size w w' := by
  have HP := Lib.hid (fun w => trim_c t w)
  have H1 := Lib.hid (fun w => idxA_c t w)
  have H2 := Lib.hid (fun w => idxB_c (Lib.trimPrefix t [45]) w)
  have ha := runT_ascii hr
  have x1 := idx_ascii (fun x => !isLet x) t ha
  have x2 := idx_ascii (fun x => !isDig x) (Lib.trimPrefix t [45]) (fun d hd => ha d (by
    unfold Lib.trimPrefix at hd
    split at hd
    · exact List.mem_of_mem_drop hd
    · exact hd))
  have y1 : (∀ d ∈ t, (fun x : Nat => !isLet x) d.toNat = false) ↔ t.all letB = true := by
    simp only [List.all_eq_true]
    refine forall_congr' fun d => forall_congr' fun hd => ?_
    show (!isLet (d.toNat : Int)) = false ↔ _
    rw [let_nat]
    simp
  have y2 : (∀ d ∈ Lib.trimPrefix t [45], (fun x : Nat => !isDig x) d.toNat = false) ↔ ¬ t.any letB = true := by
    rw [show (¬ t.any letB = true) ↔ t.any letB = false by simp, ← trim_run hr]
    refine forall_congr' fun d => forall_congr' fun hd => ?_
    show (!isDig (d.toNat : Int)) = false ↔ _
    rw [dig_nat]
    simp
  rw [y1] at x1
  rw [y2] at x2
  clear y1 y2 ha
  generalize Lib.idxFunc (fun x => !isLet x) true ⟨t.toArray⟩ = i1 at H1 x1
  generalize Lib.idxFunc (fun x => !isDig x) true ⟨(Lib.trimPrefix t [45]).toArray⟩ = i2 at H2 x2
  generalize Lib.trimPrefix t [45] = d at HP H2
  have ez : t.length = (⟨t.toArray⟩ : ByteArray).size := by simp [ByteArray.size]
  have e5 : tokenL t = if t.all letB = true then (if 32 < t.length then (21, 0, 0) else (0, 0, 0)) else if t.any letB = true then (21, 0, 0) else numT t := rfl
  rw [e5]
  clear e5
  by_cases a1 : t.all letB = true
  · have z1 := x1.2 a1
    rw [if_pos a1]
    clear x1 x2 H2 a1
    by_cases hl : 32 < t.length
    · have hl' : (32 : Int) < ((⟨t.toArray⟩ : ByteArray).size : Int) := by omega
      rw [if_pos hl]
      clear ez
      simp only [show ¬ (21 : Int) = 0 by decide, if_false]
      go_enter Tryd.func72, Tryd.ntmps72
      go_wp2_with fail
      refine (HP.out _).mono ?_; rintro e v1 ⟨rfl, rfl⟩
      go_wp2_with fail
      refine (H1.out _).mono ?_; rintro e v2 ⟨rfl, hb2⟩
      have bl2 := bl_step (bl_alloc (Below.refl _ _) _) hb2
      have B2 : Blk v2 w.heap.size 116 #[.int .i64 0, .string ⟨#[]⟩, .int .i64 0, .int .i64 0, .int .i64 0] := (Blk.new _ _ _).below hb2
      have b2_z : w.heap.size < v2.heap.size := B2.lt
      have b2_c0 : v2.cell? ⟨w.heap.size, 0, none⟩ = some (.int .i64 0) := (B2.cell 0).trans rfl
      have b2_f0 := B2.frozen 0
      have b2_c1 : v2.cell? ⟨w.heap.size, 1, none⟩ = some (.string ⟨#[]⟩) := (B2.cell 1).trans rfl
      have b2_f1 := B2.frozen 1
      have b2_c2 : v2.cell? ⟨w.heap.size, 2, none⟩ = some (.int .i64 0) := (B2.cell 2).trans rfl
      have b2_f2 := B2.frozen 2
      have b2_c3 : v2.cell? ⟨w.heap.size, 3, none⟩ = some (.int .i64 0) := (B2.cell 3).trans rfl
      have b2_f3 := B2.frozen 3
      have b2_c4 : v2.cell? ⟨w.heap.size, 4, none⟩ = some (.int .i64 0) := (B2.cell 4).trans rfl
      have b2_f4 := B2.frozen 4
      go_wp2_with fail
      have BF : Blk (((((v2.setCell ⟨w.heap.size, 0, none⟩ (.int .i64 0)).setCell ⟨w.heap.size, 1, none⟩ (.string ⟨#[]⟩)).setCell ⟨w.heap.size, 2, none⟩ (.int .i64 0)).setCell ⟨w.heap.size, 3, none⟩ (.int .i64 0)).setCell ⟨w.heap.size, 4, none⟩ (.int .i64 0)) w.heap.size 116 #[.int .i64 0, .string ⟨#[]⟩, .int .i64 0, .int .i64 0, .int .i64 0] := B2.put5
      have blf : Below w.heap.size w (((((v2.setCell ⟨w.heap.size, 0, none⟩ (.int .i64 0)).setCell ⟨w.heap.size, 1, none⟩ (.string ⟨#[]⟩)).setCell ⟨w.heap.size, 2, none⟩ (.int .i64 0)).setCell ⟨w.heap.size, 3, none⟩ (.int .i64 0)).setCell ⟨w.heap.size, 4, none⟩ (.int .i64 0)) := bl_set (bl_set (bl_set (bl_set (bl_set (bl2) (p := ⟨w.heap.size, 0, none⟩) (Nat.le_refl _) _) (p := ⟨w.heap.size, 1, none⟩) (Nat.le_refl _) _) (p := ⟨w.heap.size, 2, none⟩) (Nat.le_refl _) _) (p := ⟨w.heap.size, 3, none⟩) (Nat.le_refl _) _) (p := ⟨w.heap.size, 4, none⟩) (Nat.le_refl _) _
      clear b2_z b2_c0 b2_f0 b2_c1 b2_f1 b2_c2 b2_f2 b2_c3 b2_f3 b2_c4 b2_f4
      generalize (((((v2.setCell ⟨w.heap.size, 0, none⟩ (.int .i64 0)).setCell ⟨w.heap.size, 1, none⟩ (.string ⟨#[]⟩)).setCell ⟨w.heap.size, 2, none⟩ (.int .i64 0)).setCell ⟨w.heap.size, 3, none⟩ (.int .i64 0)).setCell ⟨w.heap.size, 4, none⟩ (.int .i64 0)) = vf at BF blf ⊢
      have bf_z : w.heap.size < vf.heap.size := BF.lt
      have bf_c0 : vf.cell? ⟨w.heap.size, 0, none⟩ = some (.int .i64 0) := (BF.cell 0).trans rfl
      have bf_f0 := BF.frozen 0
      have bf_c1 : vf.cell? ⟨w.heap.size, 1, none⟩ = some (.string ⟨#[]⟩) := (BF.cell 1).trans rfl
      have bf_f1 := BF.frozen 1
      have bf_c2 : vf.cell? ⟨w.heap.size, 2, none⟩ = some (.int .i64 0) := (BF.cell 2).trans rfl
      have bf_f2 := BF.frozen 2
      have bf_c3 : vf.cell? ⟨w.heap.size, 3, none⟩ = some (.int .i64 0) := (BF.cell 3).trans rfl
      have bf_f3 := BF.frozen 3
      have bf_c4 : vf.cell? ⟨w.heap.size, 4, none⟩ = some (.int .i64 0) := (BF.cell 4).trans rfl
      have bf_f4 := BF.frozen 4
      refine bodyPost_ret (v := .tuple #[.agg #[.int .i64 0, .string ⟨#[]⟩, .int .i64 0, .int .i64 0, .int .i64 0], .int .i64 21]) (by simp [results, Tryd.results72, go_sem, bf_z, bf_c0, bf_f0, bf_c1, bf_f1, bf_c2, bf_f2, bf_c3, bf_f3, bf_c4, bf_f4]) rfl ⟨rfl, blf⟩
    · have hl' : ¬ (32 : Int) < ((⟨t.toArray⟩ : ByteArray).size : Int) := by omega
      rw [if_neg hl]
      clear ez
      simp only [if_true]
      go_enter Tryd.func72, Tryd.ntmps72
      go_wp2_with fail
      refine (HP.out _).mono ?_; rintro e v1 ⟨rfl, rfl⟩
      go_wp2_with fail
      refine (H1.out _).mono ?_; rintro e v2 ⟨rfl, hb2⟩
      have bl2 := bl_step (bl_alloc (Below.refl _ _) _) hb2
      have B2 : Blk v2 w.heap.size 116 #[.int .i64 0, .string ⟨#[]⟩, .int .i64 0, .int .i64 0, .int .i64 0] := (Blk.new _ _ _).below hb2
      have b2_z : w.heap.size < v2.heap.size := B2.lt
      have b2_c0 : v2.cell? ⟨w.heap.size, 0, none⟩ = some (.int .i64 0) := (B2.cell 0).trans rfl
      have b2_f0 := B2.frozen 0
      have b2_c1 : v2.cell? ⟨w.heap.size, 1, none⟩ = some (.string ⟨#[]⟩) := (B2.cell 1).trans rfl
      have b2_f1 := B2.frozen 1
      have b2_c2 : v2.cell? ⟨w.heap.size, 2, none⟩ = some (.int .i64 0) := (B2.cell 2).trans rfl
      have b2_f2 := B2.frozen 2
      have b2_c3 : v2.cell? ⟨w.heap.size, 3, none⟩ = some (.int .i64 0) := (B2.cell 3).trans rfl
      have b2_f3 := B2.frozen 3
      have b2_c4 : v2.cell? ⟨w.heap.size, 4, none⟩ = some (.int .i64 0) := (B2.cell 4).trans rfl
      have b2_f4 := B2.frozen 4
      go_wp2_with fail
      have BF : Blk (((((v2.setCell ⟨w.heap.size, 0, none⟩ (.int .i64 0)).setCell ⟨w.heap.size, 1, none⟩ (.string ⟨t.toArray⟩)).setCell ⟨w.heap.size, 2, none⟩ (.int .i64 0)).setCell ⟨w.heap.size, 3, none⟩ (.int .i64 0)).setCell ⟨w.heap.size, 4, none⟩ (.int .i64 0)) w.heap.size 116 #[.int .i64 0, .string ⟨t.toArray⟩, .int .i64 0, .int .i64 0, .int .i64 0] := B2.put5
      have blf : Below w.heap.size w (((((v2.setCell ⟨w.heap.size, 0, none⟩ (.int .i64 0)).setCell ⟨w.heap.size, 1, none⟩ (.string ⟨t.toArray⟩)).setCell ⟨w.heap.size, 2, none⟩ (.int .i64 0)).setCell ⟨w.heap.size, 3, none⟩ (.int .i64 0)).setCell ⟨w.heap.size, 4, none⟩ (.int .i64 0)) := bl_set (bl_set (bl_set (bl_set (bl_set (bl2) (p := ⟨w.heap.size, 0, none⟩) (Nat.le_refl _) _) (p := ⟨w.heap.size, 1, none⟩) (Nat.le_refl _) _) (p := ⟨w.heap.size, 2, none⟩) (Nat.le_refl _) _) (p := ⟨w.heap.size, 3, none⟩) (Nat.le_refl _) _) (p := ⟨w.heap.size, 4, none⟩) (Nat.le_refl _) _
      clear b2_z b2_c0 b2_f0 b2_c1 b2_f1 b2_c2 b2_f2 b2_c3 b2_f3 b2_c4 b2_f4
      generalize (((((v2.setCell ⟨w.heap.size, 0, none⟩ (.int .i64 0)).setCell ⟨w.heap.size, 1, none⟩ (.string ⟨t.toArray⟩)).setCell ⟨w.heap.size, 2, none⟩ (.int .i64 0)).setCell ⟨w.heap.size, 3, none⟩ (.int .i64 0)).setCell ⟨w.heap.size, 4, none⟩ (.int .i64 0)) = vf at BF blf ⊢
      have bf_z : w.heap.size < vf.heap.size := BF.lt
      have bf_c0 : vf.cell? ⟨w.heap.size, 0, none⟩ = some (.int .i64 0) := (BF.cell 0).trans rfl
      have bf_f0 := BF.frozen 0
      have bf_c1 : vf.cell? ⟨w.heap.size, 1, none⟩ = some (.string ⟨t.toArray⟩) := (BF.cell 1).trans rfl
      have bf_f1 := BF.frozen 1
      have bf_c2 : vf.cell? ⟨w.heap.size, 2, none⟩ = some (.int .i64 0) := (BF.cell 2).trans rfl
      have bf_f2 := BF.frozen 2
      have bf_c3 : vf.cell? ⟨w.heap.size, 3, none⟩ = some (.int .i64 0) := (BF.cell 3).trans rfl
      have bf_f3 := BF.frozen 3
      have bf_c4 : vf.cell? ⟨w.heap.size, 4, none⟩ = some (.int .i64 0) := (BF.cell 4).trans rfl
      have bf_f4 := BF.frozen 4
      refine bodyPost_ret (v := .tuple #[.agg #[.int .i64 0, .string ⟨t.toArray⟩, .int .i64 0, .int .i64 0, .int .i64 0], .int .i64 0]) (by simp [results, Tryd.results72, go_sem, bf_z, bf_c0, bf_f0, bf_c1, bf_f1, bf_c2, bf_f2, bf_c3, bf_f3, bf_c4, bf_f4]) rfl ⟨rfl, blf⟩
  · have z1 : ¬ i1 < 0 := fun h => a1 (x1.1 h)
    rw [if_neg a1]
    clear x1 a1 ez
    by_cases a2 : t.any letB = true
    · have z2 : ¬ i2 < 0 := fun h => x2.1 h a2
      rw [if_pos a2]
      clear x2 a2
      have z3 : 0 ≤ i2 := by omega
      simp only [show ¬ (21 : Int) = 0 by decide, if_false]
      go_enter Tryd.func72, Tryd.ntmps72
      go_wp2_with fail
      refine (HP.out _).mono ?_; rintro e v1 ⟨rfl, rfl⟩
      go_wp2_with fail
      refine (H1.out _).mono ?_; rintro e v2 ⟨rfl, hb2⟩
      have bl2 := bl_step (bl_alloc (Below.refl _ _) _) hb2
      have B2 : Blk v2 w.heap.size 116 #[.int .i64 0, .string ⟨#[]⟩, .int .i64 0, .int .i64 0, .int .i64 0] := (Blk.new _ _ _).below hb2
      have b2_z : w.heap.size < v2.heap.size := B2.lt
      have b2_c0 : v2.cell? ⟨w.heap.size, 0, none⟩ = some (.int .i64 0) := (B2.cell 0).trans rfl
      have b2_f0 := B2.frozen 0
      have b2_c1 : v2.cell? ⟨w.heap.size, 1, none⟩ = some (.string ⟨#[]⟩) := (B2.cell 1).trans rfl
      have b2_f1 := B2.frozen 1
      have b2_c2 : v2.cell? ⟨w.heap.size, 2, none⟩ = some (.int .i64 0) := (B2.cell 2).trans rfl
      have b2_f2 := B2.frozen 2
      have b2_c3 : v2.cell? ⟨w.heap.size, 3, none⟩ = some (.int .i64 0) := (B2.cell 3).trans rfl
      have b2_f3 := B2.frozen 3
      have b2_c4 : v2.cell? ⟨w.heap.size, 4, none⟩ = some (.int .i64 0) := (B2.cell 4).trans rfl
      have b2_f4 := B2.frozen 4
      go_wp2_with fail
      refine (H2.out _).mono ?_; rintro e v3 ⟨rfl, hb3⟩
      have bl3 := bl_step bl2 hb3
      have B3 := B2.below hb3
      clear b2_z b2_c0 b2_f0 b2_c1 b2_f1 b2_c2 b2_f2 b2_c3 b2_f3 b2_c4 b2_f4
      have b3_z : w.heap.size < v3.heap.size := B3.lt
      have b3_c0 : v3.cell? ⟨w.heap.size, 0, none⟩ = some (.int .i64 0) := (B3.cell 0).trans rfl
      have b3_f0 := B3.frozen 0
      have b3_c1 : v3.cell? ⟨w.heap.size, 1, none⟩ = some (.string ⟨#[]⟩) := (B3.cell 1).trans rfl
      have b3_f1 := B3.frozen 1
      have b3_c2 : v3.cell? ⟨w.heap.size, 2, none⟩ = some (.int .i64 0) := (B3.cell 2).trans rfl
      have b3_f2 := B3.frozen 2
      have b3_c3 : v3.cell? ⟨w.heap.size, 3, none⟩ = some (.int .i64 0) := (B3.cell 3).trans rfl
      have b3_f3 := B3.frozen 3
      have b3_c4 : v3.cell? ⟨w.heap.size, 4, none⟩ = some (.int .i64 0) := (B3.cell 4).trans rfl
      have b3_f4 := B3.frozen 4
      go_wp2_with fail
      have BF : Blk (((((v3.setCell ⟨w.heap.size, 0, none⟩ (.int .i64 0)).setCell ⟨w.heap.size, 1, none⟩ (.string ⟨#[]⟩)).setCell ⟨w.heap.size, 2, none⟩ (.int .i64 0)).setCell ⟨w.heap.size, 3, none⟩ (.int .i64 0)).setCell ⟨w.heap.size, 4, none⟩ (.int .i64 0)) w.heap.size 116 #[.int .i64 0, .string ⟨#[]⟩, .int .i64 0, .int .i64 0, .int .i64 0] := B3.put5
      have blf : Below w.heap.size w (((((v3.setCell ⟨w.heap.size, 0, none⟩ (.int .i64 0)).setCell ⟨w.heap.size, 1, none⟩ (.string ⟨#[]⟩)).setCell ⟨w.heap.size, 2, none⟩ (.int .i64 0)).setCell ⟨w.heap.size, 3, none⟩ (.int .i64 0)).setCell ⟨w.heap.size, 4, none⟩ (.int .i64 0)) := bl_set (bl_set (bl_set (bl_set (bl_set (bl3) (p := ⟨w.heap.size, 0, none⟩) (Nat.le_refl _) _) (p := ⟨w.heap.size, 1, none⟩) (Nat.le_refl _) _) (p := ⟨w.heap.size, 2, none⟩) (Nat.le_refl _) _) (p := ⟨w.heap.size, 3, none⟩) (Nat.le_refl _) _) (p := ⟨w.heap.size, 4, none⟩) (Nat.le_refl _) _
      clear b3_z b3_c0 b3_f0 b3_c1 b3_f1 b3_c2 b3_f2 b3_c3 b3_f3 b3_c4 b3_f4
      generalize (((((v3.setCell ⟨w.heap.size, 0, none⟩ (.int .i64 0)).setCell ⟨w.heap.size, 1, none⟩ (.string ⟨#[]⟩)).setCell ⟨w.heap.size, 2, none⟩ (.int .i64 0)).setCell ⟨w.heap.size, 3, none⟩ (.int .i64 0)).setCell ⟨w.heap.size, 4, none⟩ (.int .i64 0)) = vf at BF blf ⊢
      have bf_z : w.heap.size < vf.heap.size := BF.lt
      have bf_c0 : vf.cell? ⟨w.heap.size, 0, none⟩ = some (.int .i64 0) := (BF.cell 0).trans rfl
      have bf_f0 := BF.frozen 0
      have bf_c1 : vf.cell? ⟨w.heap.size, 1, none⟩ = some (.string ⟨#[]⟩) := (BF.cell 1).trans rfl
      have bf_f1 := BF.frozen 1
      have bf_c2 : vf.cell? ⟨w.heap.size, 2, none⟩ = some (.int .i64 0) := (BF.cell 2).trans rfl
      have bf_f2 := BF.frozen 2
      have bf_c3 : vf.cell? ⟨w.heap.size, 3, none⟩ = some (.int .i64 0) := (BF.cell 3).trans rfl
      have bf_f3 := BF.frozen 3
      have bf_c4 : vf.cell? ⟨w.heap.size, 4, none⟩ = some (.int .i64 0) := (BF.cell 4).trans rfl
      have bf_f4 := BF.frozen 4
      refine bodyPost_ret (v := .tuple #[.agg #[.int .i64 0, .string ⟨#[]⟩, .int .i64 0, .int .i64 0, .int .i64 0], .int .i64 21]) (by simp [results, Tryd.results72, go_sem, bf_z, bf_c0, bf_f0, bf_c1, bf_f1, bf_c2, bf_f2, bf_c3, bf_f3, bf_c4, bf_f4]) rfl ⟨rfl, blf⟩
    · have z2 : i2 < 0 := x2.2 a2
      rw [if_neg a2]
      clear x2 a2
      by_cases hv : ∃ v, Lib.parseIntB 64 t = .ok v
      · obtain ⟨v, hv⟩ := hv
        have H3 := Lib.hid (fun w => lint_ok ⟨t.toArray⟩ hs v hv w)
        rw [numT_ok hv]
        clear hv
        simp only [if_true]
        go_enter Tryd.func72, Tryd.ntmps72
        go_wp2_with fail
        refine (HP.out _).mono ?_; rintro e v1 ⟨rfl, rfl⟩
        go_wp2_with fail
        refine (H1.out _).mono ?_; rintro e v2 ⟨rfl, hb2⟩
        have bl2 := bl_step (bl_alloc (Below.refl _ _) _) hb2
        have B2 : Blk v2 w.heap.size 116 #[.int .i64 0, .string ⟨#[]⟩, .int .i64 0, .int .i64 0, .int .i64 0] := (Blk.new _ _ _).below hb2
        have b2_z : w.heap.size < v2.heap.size := B2.lt
        have b2_c0 : v2.cell? ⟨w.heap.size, 0, none⟩ = some (.int .i64 0) := (B2.cell 0).trans rfl
        have b2_f0 := B2.frozen 0
        have b2_c1 : v2.cell? ⟨w.heap.size, 1, none⟩ = some (.string ⟨#[]⟩) := (B2.cell 1).trans rfl
        have b2_f1 := B2.frozen 1
        have b2_c2 : v2.cell? ⟨w.heap.size, 2, none⟩ = some (.int .i64 0) := (B2.cell 2).trans rfl
        have b2_f2 := B2.frozen 2
        have b2_c3 : v2.cell? ⟨w.heap.size, 3, none⟩ = some (.int .i64 0) := (B2.cell 3).trans rfl
        have b2_f3 := B2.frozen 3
        have b2_c4 : v2.cell? ⟨w.heap.size, 4, none⟩ = some (.int .i64 0) := (B2.cell 4).trans rfl
        have b2_f4 := B2.frozen 4
        go_wp2_with fail
        refine (H2.out _).mono ?_; rintro e v3 ⟨rfl, hb3⟩
        have bl3 := bl_step bl2 hb3
        have B3 := B2.below hb3
        clear b2_z b2_c0 b2_f0 b2_c1 b2_f1 b2_c2 b2_f2 b2_c3 b2_f3 b2_c4 b2_f4
        have b3_z : w.heap.size < v3.heap.size := B3.lt
        have b3_c0 : v3.cell? ⟨w.heap.size, 0, none⟩ = some (.int .i64 0) := (B3.cell 0).trans rfl
        have b3_f0 := B3.frozen 0
        have b3_c1 : v3.cell? ⟨w.heap.size, 1, none⟩ = some (.string ⟨#[]⟩) := (B3.cell 1).trans rfl
        have b3_f1 := B3.frozen 1
        have b3_c2 : v3.cell? ⟨w.heap.size, 2, none⟩ = some (.int .i64 0) := (B3.cell 2).trans rfl
        have b3_f2 := B3.frozen 2
        have b3_c3 : v3.cell? ⟨w.heap.size, 3, none⟩ = some (.int .i64 0) := (B3.cell 3).trans rfl
        have b3_f3 := B3.frozen 3
        have b3_c4 : v3.cell? ⟨w.heap.size, 4, none⟩ = some (.int .i64 0) := (B3.cell 4).trans rfl
        have b3_f4 := B3.frozen 4
        go_wp2_with fail
        refine (H3.out _).mono ?_; rintro e v4 ⟨rfl, hb4⟩
        have bl4 := bl_step bl3 hb4
        have B4 := B3.below hb4
        clear b3_z b3_c0 b3_f0 b3_c1 b3_f1 b3_c2 b3_f2 b3_c3 b3_f3 b3_c4 b3_f4
        have b4_z : w.heap.size < v4.heap.size := B4.lt
        have b4_c0 : v4.cell? ⟨w.heap.size, 0, none⟩ = some (.int .i64 0) := (B4.cell 0).trans rfl
        have b4_f0 := B4.frozen 0
        have b4_c1 : v4.cell? ⟨w.heap.size, 1, none⟩ = some (.string ⟨#[]⟩) := (B4.cell 1).trans rfl
        have b4_f1 := B4.frozen 1
        have b4_c2 : v4.cell? ⟨w.heap.size, 2, none⟩ = some (.int .i64 0) := (B4.cell 2).trans rfl
        have b4_f2 := B4.frozen 2
        have b4_c3 : v4.cell? ⟨w.heap.size, 3, none⟩ = some (.int .i64 0) := (B4.cell 3).trans rfl
        have b4_f3 := B4.frozen 3
        have b4_c4 : v4.cell? ⟨w.heap.size, 4, none⟩ = some (.int .i64 0) := (B4.cell 4).trans rfl
        have b4_f4 := B4.frozen 4
        go_wp2_with fail
        have BF : Blk (((((v4.setCell ⟨w.heap.size, 0, none⟩ (.int .i64 1)).setCell ⟨w.heap.size, 1, none⟩ (.string ⟨t.toArray⟩)).setCell ⟨w.heap.size, 2, none⟩ (.int .i64 v)).setCell ⟨w.heap.size, 3, none⟩ (.int .i64 0)).setCell ⟨w.heap.size, 4, none⟩ (.int .i64 0)) w.heap.size 116 #[.int .i64 1, .string ⟨t.toArray⟩, .int .i64 v, .int .i64 0, .int .i64 0] := B4.put5
        have blf : Below w.heap.size w (((((v4.setCell ⟨w.heap.size, 0, none⟩ (.int .i64 1)).setCell ⟨w.heap.size, 1, none⟩ (.string ⟨t.toArray⟩)).setCell ⟨w.heap.size, 2, none⟩ (.int .i64 v)).setCell ⟨w.heap.size, 3, none⟩ (.int .i64 0)).setCell ⟨w.heap.size, 4, none⟩ (.int .i64 0)) := bl_set (bl_set (bl_set (bl_set (bl_set (bl4) (p := ⟨w.heap.size, 0, none⟩) (Nat.le_refl _) _) (p := ⟨w.heap.size, 1, none⟩) (Nat.le_refl _) _) (p := ⟨w.heap.size, 2, none⟩) (Nat.le_refl _) _) (p := ⟨w.heap.size, 3, none⟩) (Nat.le_refl _) _) (p := ⟨w.heap.size, 4, none⟩) (Nat.le_refl _) _
        clear b4_z b4_c0 b4_f0 b4_c1 b4_f1 b4_c2 b4_f2 b4_c3 b4_f3 b4_c4 b4_f4
        generalize (((((v4.setCell ⟨w.heap.size, 0, none⟩ (.int .i64 1)).setCell ⟨w.heap.size, 1, none⟩ (.string ⟨t.toArray⟩)).setCell ⟨w.heap.size, 2, none⟩ (.int .i64 v)).setCell ⟨w.heap.size, 3, none⟩ (.int .i64 0)).setCell ⟨w.heap.size, 4, none⟩ (.int .i64 0)) = vf at BF blf ⊢
        have bf_z : w.heap.size < vf.heap.size := BF.lt
        have bf_c0 : vf.cell? ⟨w.heap.size, 0, none⟩ = some (.int .i64 1) := (BF.cell 0).trans rfl
        have bf_f0 := BF.frozen 0
        have bf_c1 : vf.cell? ⟨w.heap.size, 1, none⟩ = some (.string ⟨t.toArray⟩) := (BF.cell 1).trans rfl
        have bf_f1 := BF.frozen 1
        have bf_c2 : vf.cell? ⟨w.heap.size, 2, none⟩ = some (.int .i64 v) := (BF.cell 2).trans rfl
        have bf_f2 := BF.frozen 2
        have bf_c3 : vf.cell? ⟨w.heap.size, 3, none⟩ = some (.int .i64 0) := (BF.cell 3).trans rfl
        have bf_f3 := BF.frozen 3
        have bf_c4 : vf.cell? ⟨w.heap.size, 4, none⟩ = some (.int .i64 0) := (BF.cell 4).trans rfl
        have bf_f4 := BF.frozen 4
        refine bodyPost_ret (v := .tuple #[.agg #[.int .i64 1, .string ⟨t.toArray⟩, .int .i64 v, .int .i64 0, .int .i64 0], .int .i64 0]) (by simp [results, Tryd.results72, go_sem, bf_z, bf_c0, bf_f0, bf_c1, bf_f1, bf_c2, bf_f2, bf_c3, bf_f3, bf_c4, bf_f4]) rfl ⟨rfl, blf⟩
      · have H3 := Lib.hid (fun w' (hb : Below w.heap.size w w') => lint_bad ⟨t.toArray⟩ hs (fun v h => hv ⟨v, h⟩) w' (hw.below hb))
        rw [numT_bad (fun v h => hv ⟨v, h⟩)]
        clear hv
        simp only [show ¬ (5 : Int) = 0 by decide, if_false]
        go_enter Tryd.func72, Tryd.ntmps72
        go_wp2_with fail
        refine (HP.out _).mono ?_; rintro e v1 ⟨rfl, rfl⟩
        go_wp2_with fail
        refine (H1.out _).mono ?_; rintro e v2 ⟨rfl, hb2⟩
        have bl2 := bl_step (bl_alloc (Below.refl _ _) _) hb2
        have B2 : Blk v2 w.heap.size 116 #[.int .i64 0, .string ⟨#[]⟩, .int .i64 0, .int .i64 0, .int .i64 0] := (Blk.new _ _ _).below hb2
        have b2_z : w.heap.size < v2.heap.size := B2.lt
        have b2_c0 : v2.cell? ⟨w.heap.size, 0, none⟩ = some (.int .i64 0) := (B2.cell 0).trans rfl
        have b2_f0 := B2.frozen 0
        have b2_c1 : v2.cell? ⟨w.heap.size, 1, none⟩ = some (.string ⟨#[]⟩) := (B2.cell 1).trans rfl
        have b2_f1 := B2.frozen 1
        have b2_c2 : v2.cell? ⟨w.heap.size, 2, none⟩ = some (.int .i64 0) := (B2.cell 2).trans rfl
        have b2_f2 := B2.frozen 2
        have b2_c3 : v2.cell? ⟨w.heap.size, 3, none⟩ = some (.int .i64 0) := (B2.cell 3).trans rfl
        have b2_f3 := B2.frozen 3
        have b2_c4 : v2.cell? ⟨w.heap.size, 4, none⟩ = some (.int .i64 0) := (B2.cell 4).trans rfl
        have b2_f4 := B2.frozen 4
        go_wp2_with fail
        refine (H2.out _).mono ?_; rintro e v3 ⟨rfl, hb3⟩
        have bl3 := bl_step bl2 hb3
        have B3 := B2.below hb3
        clear b2_z b2_c0 b2_f0 b2_c1 b2_f1 b2_c2 b2_f2 b2_c3 b2_f3 b2_c4 b2_f4
        have b3_z : w.heap.size < v3.heap.size := B3.lt
        have b3_c0 : v3.cell? ⟨w.heap.size, 0, none⟩ = some (.int .i64 0) := (B3.cell 0).trans rfl
        have b3_f0 := B3.frozen 0
        have b3_c1 : v3.cell? ⟨w.heap.size, 1, none⟩ = some (.string ⟨#[]⟩) := (B3.cell 1).trans rfl
        have b3_f1 := B3.frozen 1
        have b3_c2 : v3.cell? ⟨w.heap.size, 2, none⟩ = some (.int .i64 0) := (B3.cell 2).trans rfl
        have b3_f2 := B3.frozen 2
        have b3_c3 : v3.cell? ⟨w.heap.size, 3, none⟩ = some (.int .i64 0) := (B3.cell 3).trans rfl
        have b3_f3 := B3.frozen 3
        have b3_c4 : v3.cell? ⟨w.heap.size, 4, none⟩ = some (.int .i64 0) := (B3.cell 4).trans rfl
        have b3_f4 := B3.frozen 4
        go_wp2_with fail
        refine (H3.out _ bl3).mono ?_; rintro e v4 ⟨_, _, rfl, hb4⟩
        have bl4 := bl_step bl3 hb4
        have B4 := B3.below hb4
        clear b3_z b3_c0 b3_f0 b3_c1 b3_f1 b3_c2 b3_f2 b3_c3 b3_f3 b3_c4 b3_f4
        have b4_z : w.heap.size < v4.heap.size := B4.lt
        have b4_c0 : v4.cell? ⟨w.heap.size, 0, none⟩ = some (.int .i64 0) := (B4.cell 0).trans rfl
        have b4_f0 := B4.frozen 0
        have b4_c1 : v4.cell? ⟨w.heap.size, 1, none⟩ = some (.string ⟨#[]⟩) := (B4.cell 1).trans rfl
        have b4_f1 := B4.frozen 1
        have b4_c2 : v4.cell? ⟨w.heap.size, 2, none⟩ = some (.int .i64 0) := (B4.cell 2).trans rfl
        have b4_f2 := B4.frozen 2
        have b4_c3 : v4.cell? ⟨w.heap.size, 3, none⟩ = some (.int .i64 0) := (B4.cell 3).trans rfl
        have b4_f3 := B4.frozen 3
        have b4_c4 : v4.cell? ⟨w.heap.size, 4, none⟩ = some (.int .i64 0) := (B4.cell 4).trans rfl
        have b4_f4 := B4.frozen 4
        go_wp2_with fail
        have BF : Blk (((((v4.setCell ⟨w.heap.size, 0, none⟩ (.int .i64 0)).setCell ⟨w.heap.size, 1, none⟩ (.string ⟨#[]⟩)).setCell ⟨w.heap.size, 2, none⟩ (.int .i64 0)).setCell ⟨w.heap.size, 3, none⟩ (.int .i64 0)).setCell ⟨w.heap.size, 4, none⟩ (.int .i64 0)) w.heap.size 116 #[.int .i64 0, .string ⟨#[]⟩, .int .i64 0, .int .i64 0, .int .i64 0] := B4.put5
        have blf : Below w.heap.size w (((((v4.setCell ⟨w.heap.size, 0, none⟩ (.int .i64 0)).setCell ⟨w.heap.size, 1, none⟩ (.string ⟨#[]⟩)).setCell ⟨w.heap.size, 2, none⟩ (.int .i64 0)).setCell ⟨w.heap.size, 3, none⟩ (.int .i64 0)).setCell ⟨w.heap.size, 4, none⟩ (.int .i64 0)) := bl_set (bl_set (bl_set (bl_set (bl_set (bl4) (p := ⟨w.heap.size, 0, none⟩) (Nat.le_refl _) _) (p := ⟨w.heap.size, 1, none⟩) (Nat.le_refl _) _) (p := ⟨w.heap.size, 2, none⟩) (Nat.le_refl _) _) (p := ⟨w.heap.size, 3, none⟩) (Nat.le_refl _) _) (p := ⟨w.heap.size, 4, none⟩) (Nat.le_refl _) _
        clear b4_z b4_c0 b4_f0 b4_c1 b4_f1 b4_c2 b4_f2 b4_c3 b4_f3 b4_c4 b4_f4
        generalize (((((v4.setCell ⟨w.heap.size, 0, none⟩ (.int .i64 0)).setCell ⟨w.heap.size, 1, none⟩ (.string ⟨#[]⟩)).setCell ⟨w.heap.size, 2, none⟩ (.int .i64 0)).setCell ⟨w.heap.size, 3, none⟩ (.int .i64 0)).setCell ⟨w.heap.size, 4, none⟩ (.int .i64 0)) = vf at BF blf ⊢
        have bf_z : w.heap.size < vf.heap.size := BF.lt
        have bf_c0 : vf.cell? ⟨w.heap.size, 0, none⟩ = some (.int .i64 0) := (BF.cell 0).trans rfl
        have bf_f0 := BF.frozen 0
        have bf_c1 : vf.cell? ⟨w.heap.size, 1, none⟩ = some (.string ⟨#[]⟩) := (BF.cell 1).trans rfl
        have bf_f1 := BF.frozen 1
        have bf_c2 : vf.cell? ⟨w.heap.size, 2, none⟩ = some (.int .i64 0) := (BF.cell 2).trans rfl
        have bf_f2 := BF.frozen 2
        have bf_c3 : vf.cell? ⟨w.heap.size, 3, none⟩ = some (.int .i64 0) := (BF.cell 3).trans rfl
        have bf_f3 := BF.frozen 3
        have bf_c4 : vf.cell? ⟨w.heap.size, 4, none⟩ = some (.int .i64 0) := (BF.cell 4).trans rfl
        have bf_f4 := BF.frozen 4
        refine bodyPost_ret (v := .tuple #[.agg #[.int .i64 0, .string ⟨#[]⟩, .int .i64 0, .int .i64 0, .int .i64 0], .int .i64 5]) (by simp [results, Tryd.results72, go_sem, bf_z, bf_c0, bf_f0, bf_c1, bf_f1, bf_c2, bf_f2, bf_c3, bf_f3, bf_c4, bf_f4]) rfl ⟨rfl, blf⟩
end
end Go.Proofs.YtklomjpnmmaogaaDoor
