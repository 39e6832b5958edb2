/- wakes of the parser's laws. -/
import Derived.Test.YtklomjpnmmaogaaDoorPL
namespace Go.Proofs.YtklomjpnmmaogaaDoor
open Go Go.RowKit
set_option linter.unusedVariables false
set_option linter.unusedSimpArgs false
set_option maxRecDepth 100000

def plit1 : List UInt8 := [99, 111, 118, 101, 114, 32, 51, 32, 115, 101, 116, 32, 53, 58, 32, 48, 32, 50]
def plit2 : List UInt8 := [99, 111, 118, 101, 114, 32, 51, 32, 115, 101, 116, 32, 53, 58, 32, 50, 32, 50]
def pI : IData := ⟨3, 0, [], [], 3, [(5, [0, 2])]⟩
theorem plit1_p : parseT plit1 = .ok pI := by kernel_rfl
theorem plit2_p : parseT plit2 = .bad 1 18 4 := by kernel_rfl
theorem plit1_c (w : World) (hw : LexW w) (hN : NamesW w) : Calls Tryd.prog 7 #[.string ⟨#[99, 111, 118, 101, 114, 32, 51, 32, 115, 101, 116, 32, 53, 58, 32, 48, 32, 50]⟩] w fun e w' => ∃ D1 d1 D2 d2 b o d3 A' c', e = .returned (.tuple #[.agg #[.int .i64 3, .int .i64 0, .slice D1 0 d1, .slice D2 0 d2, .int .i64 3, .slice (some ⟨b, o, none⟩) 1 d3], .agg #[.int .i64 0, .int .i64 0], .int .i64 0]) ∧ b < w'.heap.size ∧ 1 ≤ d3 ∧ d3 ≤ 9223372036854775807 ∧ w'.cell? ⟨b, o + 1, none⟩ = some (.slice A' 2 c') ∧ Below w.heap.size w w' := by
  refine (parse_any ⟨#[99, 111, 118, 101, 114, 32, 51, 32, 115, 101, 116, 32, 53, 58, 32, 48, 32, 50]⟩ w hw hN).mono ?_
  rintro e w' ⟨hb, ⟨a, b, er, h, _⟩ | ⟨I, D1, d1, D2, d2, D3, d3, h, rfl, ho⟩⟩
  · have h : parseT plit1 = .bad a b er := h
    rw [plit1_p] at h
    cases h
  · have h : parseT plit1 = .ok I := h
    rw [plit1_p] at h
    injection h with h
    subst h
    have hs := ho.sets
    obtain ⟨us, _, h2, _⟩ := hs
    have hc := cap_of h2
    obtain ⟨b, o, A', c', rfl, hbl, _, h4, _⟩ := ho.sets.rd.get (k := 0) (p := (5, [0, 2])) rfl
    exact ⟨D1, d1, D2, d2, b, o, d3, A', c', rfl, hbl, hc.1, hc.2, by simpa using h4, hb⟩
theorem plit2_c (w : World) (hw : LexW w) (hN : NamesW w) : Calls Tryd.prog 7 #[.string ⟨#[99, 111, 118, 101, 114, 32, 51, 32, 115, 101, 116, 32, 53, 58, 32, 50, 32, 50]⟩] w fun e w' => e = .returned (.tuple #[.agg #[.int .i64 0, .int .i64 0, .slice none 0 0, .slice none 0 0, .int .i64 0, .slice none 0 0], .agg #[.int .i64 1, .int .i64 18], .int .i64 4]) ∧ Below w.heap.size w w' := by
  refine (parse_any ⟨#[99, 111, 118, 101, 114, 32, 51, 32, 115, 101, 116, 32, 53, 58, 32, 50, 32, 50]⟩ w hw hN).mono ?_
  rintro e w' ⟨hb, ⟨a, b, er, h, rfl⟩ | ⟨I, D1, d1, D2, d2, D3, d3, h, _⟩⟩
  · have h : parseT plit2 = .bad a b er := h
    rw [plit2_p] at h
    injection h with h1 h2 h3
    subst h1 h2 h3
    exact ⟨rfl, hb⟩
  · have h : parseT plit2 = .ok I := h
    rw [plit2_p] at h
    cases h
set_option maxHeartbeats 3200000 in
theorem pwakes_any (w : World) (hw : LexW w) (hN : NamesW w) : Calls Tryd.prog 9 #[] w fun e w' => e = .returned (.bool true) ∧ Below w.heap.size w w' := by
  have H1 := Lib.hid (plit1_c w hw hN)
  have H2 := Lib.hid (fun w' (hb : Below w.heap.size w w') => plit2_c w' (hw.below hb) (hN.below hb))
  clear hw hN
  go_enter Tryd.func9, Tryd.ntmps9
  go_wp2_with fail
  refine H1.out.mono ?_; rintro e v1 ⟨D1, d1, D2, d2, b, o, d3, A', c', rfl, hbl, h1, h2, hc, hb1⟩
  have bl1 := bl_alloc (bl_alloc hb1 (.cells #[.int .i64 3, .int .i64 0, .slice D1 0 d1, .slice D2 0 d2, .int .i64 3, .slice (some ⟨b, o, none⟩) 1 d3] 27)) (.cells #[.int .i64 0, .int .i64 0] 29)
  have N1 : Blk ((v1.alloc (.cells #[.int .i64 3, .int .i64 0, .slice D1 0 d1, .slice D2 0 d2, .int .i64 3, .slice (some ⟨b, o, none⟩) 1 d3] 27)).alloc (.cells #[.int .i64 0, .int .i64 0] 29)) v1.heap.size 27 #[.int .i64 3, .int .i64 0, .slice D1 0 d1, .slice D2 0 d2, .int .i64 3, .slice (some ⟨b, o, none⟩) 1 d3] := (Blk.new _ _ _).alloc _
  have bs := bl_alloc (bl_alloc (Below.refl v1.heap.size v1) (.cells #[.int .i64 3, .int .i64 0, .slice D1 0 d1, .slice D2 0 d2, .int .i64 3, .slice (some ⟨b, o, none⟩) 1 d3] 27)) (.cells #[.int .i64 0, .int .i64 0] 29)
  have hc1 := (bs.cell (p := ⟨b, o + 1, none⟩) hbl).trans hc
  have hs1 := bs.size
  clear H1 hb1 hc bs
  go_wp2_with fail
  generalize (v1.alloc (.cells #[.int .i64 3, .int .i64 0, .slice D1 0 d1, .slice D2 0 d2, .int .i64 3, .slice (some ⟨b, o, none⟩) 1 d3] 27)).alloc (.cells #[.int .i64 0, .int .i64 0] 29) = W1 at bl1 N1 hc1 hs1 ⊢
  generalize v1.heap.size = x1 at hbl N1 hs1 ⊢
  refine (H2.out _ bl1).mono ?_; rintro e v2 ⟨rfl, hb2⟩
  have bl2 := bl_step bl1 hb2
  have N2 := N1.below hb2
  have hc2 := (hb2.cell (p := ⟨b, o + 1, none⟩) (by show b < _; omega)).trans hc1
  have hs2 := hb2.size
  clear H2 bl1 N1 hc1 hb2
  have x_z : x1 < v2.heap.size := N2.lt
  have x_c0 : v2.cell? ⟨x1, 0, none⟩ = some (.int .i64 3) := (N2.cell 0).trans rfl
  have x_f0 := N2.frozen 0
  have x_c1 : v2.cell? ⟨x1, 1, none⟩ = some (.int .i64 0) := (N2.cell 1).trans rfl
  have x_f1 := N2.frozen 1
  have x_c2 : v2.cell? ⟨x1, 2, none⟩ = some (.slice D1 0 d1) := (N2.cell 2).trans rfl
  have x_f2 := N2.frozen 2
  have x_c3 : v2.cell? ⟨x1, 3, none⟩ = some (.slice D2 0 d2) := (N2.cell 3).trans rfl
  have x_f3 := N2.frozen 3
  have x_c4 : v2.cell? ⟨x1, 4, none⟩ = some (.int .i64 3) := (N2.cell 4).trans rfl
  have x_f4 := N2.frozen 4
  have x_c5 : v2.cell? ⟨x1, 5, none⟩ = some (.slice (some ⟨b, o, none⟩) 1 d3) := (N2.cell 5).trans rfl
  have x_f5 := N2.frozen 5
  have hbv : b < v2.heap.size := by omega
  have ne : ¬ v2.heap.size = b := by omega
  have ne2 : ¬ v2.heap.size + 1 = b := by omega
  have ne3 : ¬ b = v2.heap.size := by omega
  have ne4 : ¬ b = v2.heap.size + 1 := by omega
  go_wp2_with fail
  go_ret
  exact ⟨rfl, bl_alloc (bl_alloc bl2 _) _⟩
end Go.Proofs.YtklomjpnmmaogaaDoor
