/- fair, and Bound. -/
import Derived.Test.YtamfhommmogknaaDQ
namespace Go.Proofs.Ytamfhommmogknaa
open Go Go.RowKit
set_option linter.unusedVariables false
set_option linter.unusedSimpArgs false
set_option maxRecDepth 100000

/-- The places ahead of (i, k) are fair. -/
def FairTo (c : List (List Int)) (no : List (List Bool)) (rows cols : List Int) (i k : Nat) : Prop :=
  ∀ (i' k' : Nat) (r : List Int) (q : List Bool) (x y z : Int), (i' < i ∨ (i' = i ∧ k' < k)) → c[i']? = some r → no[i']? = some q → r[k']? = some x → q[k']? = some false → rows[i']? = some y → cols[k']? = some z → y + z ≤ x
open Classical in
noncomputable def fairB (c : List (List Int)) (no : List (List Bool)) (rows cols : List Int) (i k : Nat) : Bool := decide (FairTo c no rows cols i k)
section
variable {c : List (List Int)} {no : List (List Bool)} {rows cols : List Int} {i k : Nat} {r : List Int} {q : List Bool} {x y z : Int}
theorem fairB_iff : fairB c no rows cols i k = true ↔ FairTo c no rows cols i k := by unfold fairB; simp
theorem fairB_eq {i' k' : Nat} (h : FairTo c no rows cols i k ↔ FairTo c no rows cols i' k') : fairB c no rows cols i k = fairB c no rows cols i' k' := by
  apply Bool.eq_iff_iff.2
  rw [fairB_iff, fairB_iff]
  exact h
theorem fair_zero : fairB c no rows cols 0 0 = true := fairB_iff.2 fun i' k' r q x y z h => by omega
theorem fair_skip (hq : no[i]? = some q) (hk : q[k]? = some true) : fairB c no rows cols i (k + 1) = fairB c no rows cols i k := fairB_eq
  ⟨fun h i' k' r q' x y z h1 => h i' k' r q' x y z (by omega), fun h i' k' r q' x y z h1 h2 h3 h4 h5 => by
    by_cases h6 : i' < i ∨ (i' = i ∧ k' < k)
    · exact h i' k' r q' x y z h6 h2 h3 h4 h5
    · obtain ⟨rfl, rfl⟩ : i' = i ∧ k' = k := by omega
      rw [hq] at h3
      obtain rfl := Option.some.inj h3
      rw [hk] at h5
      cases h5⟩
theorem fair_next (hn : ∀ r, c[i]? = some r → r.length = c.length) : fairB c no rows cols (i + 1) 0 = fairB c no rows cols i c.length := fairB_eq
  ⟨fun h i' k' r q' x y z h1 => h i' k' r q' x y z (by omega), fun h i' k' r q' x y z h1 h2 h3 h4 h5 => by
    refine h i' k' r q' x y z ?_ h2 h3 h4 h5
    by_cases h6 : i' < i
    · exact .inl h6
    · obtain rfl : i' = i := by omega
      have h7 := (List.getElem?_eq_some_iff.1 h4).1
      have h8 := hn r h2
      exact .inr ⟨rfl, by omega⟩⟩
theorem fair_see (hr : c[i]? = some r) (hq : no[i]? = some q) (hx : r[k]? = some x) (hk : q[k]? = some false) (hy : rows[i]? = some y) (hz : cols[k]? = some z) : fairB c no rows cols i (k + 1) = (fairB c no rows cols i k && decide (y + z ≤ x)) := by
  apply Bool.eq_iff_iff.2
  rw [Bool.and_eq_true, fairB_iff, fairB_iff, decide_eq_true_eq]
  refine ⟨fun h => ⟨fun i' k' r q' x y z h1 => h i' k' r q' x y z (by omega), h i k r q x y z (.inr ⟨rfl, by omega⟩) hr hq hx hk hy hz⟩, fun ⟨h, h0⟩ i' k' r' q' x' y' z' h1 h2 h3 h4 h5 h6 h7 => ?_⟩
  by_cases h8 : i' < i ∨ (i' = i ∧ k' < k)
  · exact h i' k' r' q' x' y' z' h8 h2 h3 h4 h5 h6 h7
  · obtain ⟨rfl, rfl⟩ : i' = i ∧ k' = k := by omega
    rw [hr] at h2
    rw [hq] at h3
    obtain rfl := Option.some.inj h2
    obtain rfl := Option.some.inj h3
    rw [hx] at h4
    rw [hy] at h6
    rw [hz] at h7
    obtain rfl := Option.some.inj h4
    obtain rfl := Option.some.inj h6
    obtain rfl := Option.some.inj h7
    exact h0
end
def InvF (c : List (List Int)) (no : List (List Bool)) (rows cols : List Int) (gO gR gC : Nat) (R C : Option Addr) (rc cc B : Nat) (i k : Nat) (w : World) : Prop := Blk w gO 4 #[.bool (fairB c no rows cols i k)] ∧ Blk w gR 29 #[.slice R c.length rc] ∧ Blk w gC 29 #[.slice C c.length cc] ∧ RdI w B R rows ∧ RdI w B C cols ∧ B ≤ w.heap.size
theorem passF (c : List (List Int)) (no : List (List Bool)) (rows cols : List Int) (A1 A2 : Option Addr) (c1 c2 : Nat) (w : World) {B gO gR gC : Nat} {R C : Option Addr} {rc cc : Nat} (hI : TabAt w B c no A1 c1 A2 c2) (hP : ChkP c no) (hl : rows.length = c.length ∧ cols.length = c.length) (hw : (∀ x ∈ rows, InW x) ∧ ∀ x ∈ cols, InW x) (hB : B ≤ gO) (hg : gR ≠ gO ∧ gC ≠ gO) (h0 : InvF c no rows cols gO gR gC R C rc cc B 0 0 w) :
    Calls Try.prog 18 #[.agg #[.slice A1 c.length c1, .slice A2 c.length c2], .func (Fn.func 32) #[] #[.pointer (some ⟨gO, 0, none⟩), .pointer (some ⟨gR, 0, none⟩), .pointer (some ⟨gC, 0, none⟩)]] w fun e w' => (∃ v, e = .returned v) ∧ InvF c no rows cols gO gR gC R C rc cc B c.length 0 w' ∧ Mut gO w w' := by
  have := eachF_any c no A1 A2 c1 c2 w gO gR gC (InvF c no rows cols gO gR gC R C rc cc B) hI hP hB h0.1.lt
    (fun i k r q x wr hr hq hx hk hv => by
      have hi : i < c.length := (List.getElem?_eq_some_iff.1 hr).1
      have hkl : k < c.length := by have := (List.getElem?_eq_some_iff.1 hx).1; have := (hP.2.2 i r hr).1; omega
      obtain ⟨y, hy⟩ : ∃ y, rows[i]? = some y := ⟨_, List.getElem?_eq_getElem (by omega)⟩
      obtain ⟨z, hz⟩ : ∃ z, cols[k]? = some z := ⟨_, List.getElem?_eq_getElem (by omega)⟩
      obtain ⟨v1, v2, v3, v4, v5, v6⟩ := hv
      refine (fair1_any wr gO gR gC c.length i k _ x y z rows cols R C rc cc v1 v2 v3 v4 v5 hy hz hl ((hP.2.2 i r hr).2.2 x (List.mem_of_getElem? hx)) (hw.1 y (List.mem_of_getElem? hy)) (hw.2 z (List.mem_of_getElem? hz))).mono ?_
      rintro e u1 ⟨h1, h2, h3⟩
      exact ⟨h1, ⟨by rw [fair_see hr hq hx hk hy hz]; exact h2, v2.mut h3 hg.1, v3.mut h3 hg.2, v4.keep (h3.alike hB), v5.keep (h3.alike hB), by have := h3.bl.size; omega⟩, h3⟩)
    (fun i k q wr hq hk hv => ⟨by rw [fair_skip hq hk]; exact hv.1, hv.2⟩)
    (fun i wr hi hv => ⟨by rw [fair_next (fun r hr => (hP.2.2 i r hr).1)]; exact hv.1, hv.2⟩)
    (fun i k wr w' hv hb => by
      obtain ⟨v1, v2, v3, v4, v5, v6⟩ := hv
      exact ⟨v1.below hb, v2.below hb, v3.below hb, v4.keep (Alike.of_below hb v6), v5.keep (Alike.of_below hb v6), by have := hb.size; omega⟩) h0
  rw [hP.2.1] at this
  exact this
set_option maxHeartbeats 6400000 in
theorem fair_any (c : List (List Int)) (no : List (List Bool)) (rows cols : List Int) (A1 A2 : Option Addr) (c1 c2 : Nat) (w : World) {B : Nat} {R C : Option Addr} {rc cc : Nat} (hI : TabAt w B c no A1 c1 A2 c2) (hP : ChkP c no) (hl : rows.length = c.length ∧ cols.length = c.length) (hw : (∀ x ∈ rows, InW x) ∧ ∀ x ∈ cols, InW x) (hr : RdI w B R rows) (hc : RdI w B C cols) :
    Calls Try.prog 28 #[.agg #[.slice A1 c.length c1, .slice A2 c.length c2], .slice R c.length rc, .slice C c.length cc] w fun e w' => e = .returned (.bool (fairB c no rows cols c.length 0)) ∧ Below w.heap.size w w' := by
  have bd := hI.bd
  have bl : Below w.heap.size w ((((w.alloc (.cells #[.slice A1 c.length c1, .slice A2 c.length c2] 28)).alloc (.cells #[.slice R c.length rc] 29)).alloc (.cells #[.slice C c.length cc] 29)).alloc (.cells #[.bool true] 4)) := bl_alloc (bl_alloc (bl_alloc (bl_alloc (Below.refl _ _) _) _) _) _
  have hk := Alike.of_below bl bd
  have I0 : InvF c no rows cols (w.heap.size + 1 + 1 + 1) (w.heap.size + 1) (w.heap.size + 1 + 1) R C rc cc B 0 0 ((((w.alloc (.cells #[.slice A1 c.length c1, .slice A2 c.length c2] 28)).alloc (.cells #[.slice R c.length rc] 29)).alloc (.cells #[.slice C c.length cc] 29)).alloc (.cells #[.bool true] 4)) := ⟨by rw [fair_zero]; exact Blk.new' (by simp) _ _, ((Blk.new' (by simp) _ _).alloc _).alloc _, (Blk.new' (by simp) _ _).alloc _, hr.keep hk, hc.keep hk, by simp; omega⟩
  have HC := Lib.hid (passF c no rows cols A1 A2 c1 c2 _ (hI.below bl) hP hl hw (by omega) ⟨by omega, by omega⟩ I0)
  have BL := Lib.hid bl
  clear hI hP hl hw hr hc hk I0 bl
  go_enter Try.func28, Try.ntmps28
  go_wp2_with fail
  (with_reducible refine HC.out.mono ?_); rintro e v1 ⟨⟨_, rfl⟩, h1, h2⟩
  obtain ⟨HO, -⟩ := h1
  have BF := Lib.hid (BL.out.trans (h2.bl.mono (show w.heap.size ≤ w.heap.size + 1 + 1 + 1 by omega)))
  clear h2
  have o_z : w.heap.size + 1 + 1 + 1 < v1.heap.size := HO.lt
  have o_c0 : v1.cell? ⟨w.heap.size + 1 + 1 + 1, 0, none⟩ = some (.bool (fairB c no rows cols c.length 0)) := (HO.cell 0).trans rfl
  have o_f0 := HO.frozen 0
  go_wp2
  go_ret
  exact ⟨rfl, BF.out⟩
end Go.Proofs.Ytamfhommmogknaa
