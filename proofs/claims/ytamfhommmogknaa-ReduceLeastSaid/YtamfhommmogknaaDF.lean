/- The second closure; what the lines are behind each place. -/
import Derived.Test.YtamfhommmogknaaDE
namespace Go.Proofs.Ytamfhommmogknaa
open Go Go.RowKit
set_option linter.unusedVariables false
set_option linter.unusedSimpArgs false
set_option maxRecDepth 100000

theorem LinesAt.drew {w : World} {g : Nat} {ls : List (Int × Bool)} (h : LinesAt w g ls) : LinesAt w.drew g ls := Blk.drew h
theorem LinesAt.below {w w' : World} {g : Nat} {ls : List (Int × Bool)} (h : LinesAt w g ls) (hb : Below w.heap.size w w') : LinesAt w' g ls := Blk.below h hb
theorem LinesAt.lt {w : World} {g : Nat} {ls : List (Int × Bool)} (h : LinesAt w g ls) : g < w.heap.size := Blk.lt h
set_option maxHeartbeats 3200000 in
theorem col_any (w : World) (g gL gR n i k base : Nat) (ls : List (Int × Bool)) (p : Int × Bool) (x y : Int) (rows : List Int) (R : Option Addr) (rd : Nat) (hL : LinesAt w g ls) (hk : ls[k]? = some p) (hn : ls.length = n) (hn2 : n ≤ 64) (hx : InM x) (hy : InM y)
    (hb : Blk w gL 45 #[.slice (some ⟨g, 0, none⟩) n n]) (hR : Blk w gR 29 #[.slice R n rd]) (hrow : w.ownsRow base 2 1 (.slice R n rd) n (rows.map (Value.int .i64))) (hi : rows[i]? = some y) (hg : g < gL ∧ g < gR ∧ g < base) :
    Calls Try.prog 22 #[.int .i64 (i : Nat), .int .i64 (k : Nat), .int .i64 x, .pointer (some ⟨gL, 0, none⟩), .pointer (some ⟨gR, 0, none⟩)] w fun e w' => (∃ v, e = .returned v) ∧ LinesAt w' g (ls.set k (seeL (x - y) p)) ∧ Mut g w w' := by
  have hrl : i < n := by
    have h1 := (List.getElem?_eq_some_iff.1 hi).1
    have h2 : (rows.map (Value.int .i64)).length = n * 1 := hrow.1
    simp at h2
    omega
  obtain ⟨gr, rfl, hgr, hgs, hcell, _⟩ := own_lt hrow (by omega)
  have hc := hcell i (.int .i64 y) (by rw [List.getElem?_map, hi]; rfl)
  have Hrow := Lib.hid hrow
  have HL := Lib.hid hL
  have H1 := Lib.hid (fun w' (h : LinesAt w' g ls) => see_any w' g k ls p (x - y) h hk)
  have hl : k < n := by have := (List.getElem?_eq_some_iff.1 hk).1; omega
  have i0 : (0 : Int) ≤ (i : Int) := by omega
  have i1 : (i : Int) < (n : Int) := by omega
  have k0 : (0 : Int) ≤ (k : Int) := by omega
  have k1 : (k : Int) < (n : Int) := by omega
  obtain ⟨x1, x2⟩ := hx
  obtain ⟨y1, y2⟩ := hy
  have wz : IntKind.i64.wrap (x - y) = x - y := by rw [IntKind.wrap_i64]; omega
  clear hL hk hn hcell hi hrow
  have b_z : gL < w.heap.size := hb.lt
  have b_c0 : w.cell? ⟨gL, 0, none⟩ = some (.slice (some ⟨g, 0, none⟩) n n) := (hb.cell 0).trans rfl
  have b_f0 := hb.frozen 0
  have r_z : gR < w.heap.size := hR.lt
  have r_c0 : w.cell? ⟨gR, 0, none⟩ = some (.slice (some ⟨gr, 0, none⟩) n rd) := (hR.cell 0).trans rfl
  have r_f0 := hR.frozen 0
  go_enter Try.func22, Try.ntmps22
  go_wp2_with fail
  go_region_held3 (fun w' => w'.cell? ⟨gL, 0, none⟩ = some (.slice (some ⟨g, 0, none⟩) n n) ∧ w'.cell? ⟨gR, 0, none⟩ = some (.slice (some ⟨gr, 0, none⟩) n rd) ∧ w'.cell? ⟨gr, i, none⟩ = some (.int .i64 y)) (go_keep) (first | (go_at_call 20; (with_reducible refine (H1.out _ HL.out.drew).mono ?_); rintro e v1 ⟨⟨v, rfl⟩, h1, h2⟩; have q1 : v1.cell? ⟨gL, 0, none⟩ = some (.slice (some ⟨g, 0, none⟩) n n) := ((hb.drew.mut h2 (by omega)).cell 0).trans rfl; have q2 : v1.cell? ⟨gR, 0, none⟩ = some (.slice (some ⟨gr, 0, none⟩) n rd) := ((hR.drew.mut h2 (by omega)).cell 0).trans rfl; have q3 : v1.cell? ⟨gr, i, none⟩ = some (.int .i64 y) := (h2.up_cell (b := gr) (o := i) (by omega) hgs).trans hc))
  go_wp2
  go_end0
  exact ⟨⟨_, rfl⟩, h1, (Mut.of_below (bl_drew (Below.refl _ _)) (Nat.le_of_lt HL.out.lt)).trans h2⟩
end Go.Proofs.Ytamfhommmogknaa
