/- tame: a table that may be. -/
import Derived.Test.YtamfhommmogknaaDL
namespace Go.Proofs.Ytamfhommmogknaa
open Go Go.RowKit
set_option linter.unusedVariables false
set_option linter.unusedSimpArgs false
set_option maxRecDepth 100000

theorem info_B : (Try.prog.info? 4).map (fun i => (i.zero, i.size, i.bytes)) = some (some (.bool false), 1, 1) := by kernel_rfl
theorem info_RI : (Try.prog.info? 29).map (fun i => (i.zero, i.size, i.bytes)) = some (some (.slice none 0 0), 1, 24) := by kernel_rfl
theorem info_RB : (Try.prog.info? 43).map (fun i => (i.zero, i.size, i.bytes)) = some (some (.slice none 0 0), 1, 24) := by kernel_rfl
def OwnQ (w : World) (base : Nat) (tr te : TypeId) (v : Value) (rows : List (List Bool)) : Prop := ∃ us : List Value, us.length = rows.length ∧ w.ownsRow base tr 1 v rows.length us ∧ ∀ (i : Nat) (r : List Bool) (u : Value), rows[i]? = some r → us[i]? = some u → w.ownsRow base te 1 u r.length (r.map Value.bool)
section
variable {w w' : World} {base base' : Nat} {e e0 tr te : TypeId} {s s0 n n0 : Nat} {v v0 : Value} {xs xs0 : List Value}
theorem OwnQ.below {rows : List (List Bool)} (h : OwnQ w base tr te v rows) (hb : Below w.heap.size w w') : OwnQ w' base tr te v rows := by
  obtain ⟨us, h1, h2, h3⟩ := h
  exact ⟨us, h1, own_below h2 hb, fun i r u hr hu => own_below (h3 i r u hr hu) hb⟩
theorem own_hdB {u : Value} {r : List Bool} (h : w.ownsRow base e 1 u r.length (r.map Value.bool)) : HdB w w.heap.size u r := by
  obtain ⟨A, c, rfl, h1, h2⟩ := own_slice h
  exact ⟨A, c, rfl, h1, h2, Reads.of_own h⟩
theorem OwnQ.rd {A : Option Addr} {c : Nat} {rows : List (List Bool)} (h : OwnQ w base tr te (.slice A rows.length c) rows) : RdQ w w.heap.size A rows := by
  obtain ⟨us, h1, h2, h3⟩ := h
  exact ⟨us, h1, Reads.of_own h2, fun i r u hr hu => own_hdB (h3 i r u hr hu)⟩
theorem own_oth (h : w.ownsRow base e s v n xs) (h0 : w.ownsRow base e0 s0 v0 n0 xs0) (hne : e0 ≠ e) (hg : w.grownBy w' v0.ownBlock) : w'.ownsRow base e s v n xs := by
  refine h.kept hg ?_
  rcases hb : v0.ownBlock with _ | g
  · rcases hv : v.ownBlock with _ | k
    · exact .inl rfl
    · exact .inr (by simp)
  · exact .inr (own_apart h0 h hne hb)
theorem getElem?_snoc {α : Type} {l : List α} {x y : α} {i : Nat} (h : (l ++ [x])[i]? = some y) : (i < l.length ∧ l[i]? = some y) ∨ (i = l.length ∧ y = x) := by
  rw [List.getElem?_append] at h
  split at h
  · exact .inl ⟨by assumption, h⟩
  · rename_i hh
    right
    have : i - l.length = 0 := by
      have := (List.getElem?_eq_some_iff.1 h).1
      simp at this
      omega
    rw [this] at h
    simp at h
    exact ⟨by omega, h.symm⟩
theorem OwnR.snoc {rows : List (List Int)} {us : List Value} {v' x : Value} {r : List Int} (hl : us.length = rows.length) (hn : w'.ownsRow base tr 1 v' (rows.length + 1) (us ++ [x])) (hu : ∀ (i : Nat) (r : List Int) (u : Value), rows[i]? = some r → us[i]? = some u → w'.ownsRow base te 1 u r.length (r.map (Value.int .i64)))
    (hx : w'.ownsRow base te 1 x r.length (r.map (Value.int .i64))) : OwnR w' base tr te v' (rows ++ [r]) := by
  refine ⟨us ++ [x], by simp [hl], by simpa using hn, fun i r' u a b => ?_⟩
  rcases getElem?_snoc a with ⟨a1, a2⟩ | ⟨rfl, rfl⟩
  · rcases getElem?_snoc b with ⟨b1, b2⟩ | ⟨rfl, rfl⟩
    · exact hu i r' u a2 b2
    · omega
  · rcases getElem?_snoc b with ⟨b1, b2⟩ | ⟨_, rfl⟩
    · omega
    · exact hx
theorem OwnQ.snoc {rows : List (List Bool)} {us : List Value} {v' x : Value} {r : List Bool} (hl : us.length = rows.length) (hn : w'.ownsRow base tr 1 v' (rows.length + 1) (us ++ [x])) (hu : ∀ (i : Nat) (r : List Bool) (u : Value), rows[i]? = some r → us[i]? = some u → w'.ownsRow base te 1 u r.length (r.map Value.bool))
    (hx : w'.ownsRow base te 1 x r.length (r.map Value.bool)) : OwnQ w' base tr te v' (rows ++ [r]) := by
  refine ⟨us ++ [x], by simp [hl], by simpa using hn, fun i r' u a b => ?_⟩
  rcases getElem?_snoc a with ⟨a1, a2⟩ | ⟨rfl, rfl⟩
  · rcases getElem?_snoc b with ⟨b1, b2⟩ | ⟨rfl, rfl⟩
    · exact hu i r' u a2 b2
    · omega
  · rcases getElem?_snoc b with ⟨b1, b2⟩ | ⟨_, rfl⟩
    · omega
    · exact hx
end
theorem run_mk {w : World} {n : Nat} {t e : TypeId} {z : Value} {bytes : Nat} (ht : Try.prog.underlying t = some (.slice e)) (hinfo : (Try.prog.info? e).map (fun i => (i.zero, i.size, i.bytes)) = some (some z, 1, bytes)) (hz : z.cells = #[z]) (hb : bytes ≤ 8) (hn : n ≤ 70) :
    ∃ w', (Instr.makeSlice t (.int .i64 (n : Int)) (.int .i64 (n : Int))).run Try.prog w = .ok (.slice (some ⟨w.heap.size, 0, none⟩) n n) w' ∧ w'.ownsRow w.heap.size e 1 (.slice (some ⟨w.heap.size, 0, none⟩) n n) n (List.replicate n z) ∧ Below w.heap.size w w' ∧ w'.heap.size = w.heap.size + 1 := by
  obtain ⟨ii, hii, hiz⟩ := Option.map_eq_some_iff.1 hinfo
  simp only [Prod.mk.injEq] at hiz
  obtain ⟨z1, z2, z3⟩ := hiz
  have hr := run_make (P := Try.prog) w t e ii z ht hii z1 .i64 .i64 (n : Int) (n : Int) (by omega) (Int.le_refl _) (by rw [z3]; have : (bytes : Int) * (n : Int) ≤ 8 * 70 := Int.mul_le_mul (by omega) (by omega) (by omega) (by omega); omega) (by omega)
  simp only [Int.toNat_natCast, z2, hz] at hr
  refine ⟨_, hr, ?_, bl_alloc (Below.refl _ _) _, by simp⟩
  have h2 := World.ownsRow_lit w (madeCells #[z] (n * 1)) (e := e) (size := 1) n (Nat.le_refl _) (by unfold maxLen; omega) (size_madeCells _ _)
  have e2 : (madeCells #[z] (n * 1)).toList = List.replicate n z := (congrArg (fun k => (madeCells #[z] k).toList) (Nat.mul_one n)).trans (toList_madeCells_one _ _)
  rw [e2] at h2
  exact h2
theorem step_mk {P : Program} {ops : Array Oper} {o : Oper} {a : Act} {K : Act → World → Prop} {Q : Exit → Act → World → Prop} {E : Prop} {w w' : World} {v' : Value} (hgd : o.guard = none) (l c : Operand) (t : TypeId)
    (ho : o.op = Op.makeSlice t l c) (hrun : (Instr.makeSlice t (a.eval l) (a.eval c)).run P w = .ok v' w') (h : K (a.put o.dst v') w') :
    if Region.wanted o (yielded ops a.tmps) = true then Oper.wp P o a w K Q else E := by
  have hw : Region.wanted o (yielded ops a.tmps) = true := by simp [Region.wanted, hgd]
  rw [if_pos hw]
  unfold Oper.wp
  simp [execOp, ho, hrun, Result.andThen]
  exact h
end Go.Proofs.Ytamfhommmogknaa
