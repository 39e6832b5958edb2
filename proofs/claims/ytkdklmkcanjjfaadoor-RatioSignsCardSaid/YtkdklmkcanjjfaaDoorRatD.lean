/- The walks of ratio, part D: Text. -/
import Derived.Test.YtkdklmkcanjjfaaDoorRatC
import Derived.Test.YtkdklmkcanjjfaaDoorShelf
import Derived.WalkSmall
import Derived.Lib.AppendIntMem
import Derived.Lib.ItoaLen
namespace Go.Proofs.YtkdklmkcanjjfaaDoor
open Go.RowKit
set_option linter.unusedVariables false
set_option linter.unusedSimpArgs false
set_option maxRecDepth 100000

/-- What the walks of ratios ask of a world: Go's table of tens, and its two errors. -/
structure RatW (W : World) : Prop where
  tab : Lib.TabIs Tryd.prog W "internal/strconv.uint64pow10" .u64 Lib.pow10Tab
  syn : ∃ tp p, W.var? Tryd.prog "strconv.ErrSyntax" = some #[.iface tp p]
  rng : ∃ tp p, W.var? Tryd.prog "strconv.ErrRange" = some #[.iface tp p]
  sz : 0 < W.heap.size ∧ 2 < W.heap.size ∧ 3 < W.heap.size
theorem RatW.below {W W' : World} (h : RatW W) (hb : Below W.heap.size W W') : RatW W' := by
  obtain ⟨s1, s2, s3⟩ := h.sz
  obtain ⟨t1, p1, e1⟩ := h.syn
  obtain ⟨t2, p2, e2⟩ := h.rng
  have := hb.size
  exact ⟨var?_below hb (by kernel_rfl) s1 h.tab, ⟨t1, p1, var?_below hb (by kernel_rfl) s2 e1⟩, ⟨t2, p2, var?_below hb (by kernel_rfl) s3 e2⟩, by omega, by omega, by omega⟩

theorem fmt_c (n : Int) (w : World) (hn : InI n) (hw : RatW w) :
    Calls Tryd.prog 45 #[.int .i64 n, .int .i64 10] w fun e w' => e = .returned (.string ⟨(Lib.itoa n).toArray⟩) ∧ Below w.heap.size w w' :=
  (Tryd.strconv_FormatInt_10 n hn.1 hn.2 w hw.tab).mono fun e w' ⟨he, k, os, hk⟩ => ⟨he, by subst hk; exact Lib.below_grow _ _ (Nat.le_refl _) _ _⟩

theorem bytes_cat (s1 s2 : List UInt8) : (⟨(s1 ++ 47 :: s2).toArray⟩ : ByteArray) = ⟨s1.toArray⟩ ++ ⟨#[47]⟩ ++ ⟨s2.toArray⟩ := by apply ByteArray.ext; simp [ByteArray.data_append]
def textR (n d : Int) : List UInt8 := if goodB n d = true then (if d = 1 then Lib.itoa n else Lib.itoa n ++ (47 :: Lib.itoa d)) else []
set_option maxHeartbeats 1600000 in
theorem text_any (n d : Int) (w : World) (hn : InI n) (hd : InI d) (hw : RatW w) :
    Calls Tryd.prog 19 #[.agg #[.int .i64 n, .int .i64 d]] w fun e w' => e = .returned (.string ⟨(textR n d).toArray⟩) ∧ Below w.heap.size w w' := by
  have H1 := Lib.hid (fun w => good_any n d w hn hd)
  have H2 := Lib.hid (fun w' (hb : Below w.heap.size w w') => fmt_c n w' hn (hw.below hb))
  have H3 := Lib.hid (fun w' (hb : Below w.heap.size w w') => fmt_c d w' hd (hw.below hb))
  unfold textR
  generalize goodB n d = x at H1 ⊢
  cases x
  · go_enter Tryd.func19, Tryd.ntmps19
    go_wp2_with fail
    refine (H1.out _).mono ?_; rintro e v1 ⟨rfl, hb1⟩
    have st1 := bl_step (bl_alloc (Below.refl _ _) _) hb1
    have bl1 := st1
    have Ba_1 : Blk v1 (w.heap.size) 23 #[.int .i64 n, .int .i64 d] := (Blk.new _ _ _).below hb1
    have a_1_z : w.heap.size < v1.heap.size := Ba_1.lt
    have a_1_c0 : v1.cell? ⟨w.heap.size, 0, none⟩ = some (.int .i64 n) := (Ba_1.cell 0).trans rfl
    have a_1_f0 := Ba_1.frozen 0
    have a_1_c1 : v1.cell? ⟨w.heap.size, 1, none⟩ = some (.int .i64 d) := (Ba_1.cell 1).trans rfl
    have a_1_f1 := Ba_1.frozen 1
    go_wp2
    go_ret
    exact ⟨rfl, bl1⟩
  · by_cases h1 : d = 1
    · subst h1
      rw [if_pos rfl, if_pos rfl]
      generalize Lib.itoa n = s1 at H2 ⊢
      clear H3
      go_enter Tryd.func19, Tryd.ntmps19
      go_wp2_with fail
      refine (H1.out _).mono ?_; rintro e v1 ⟨rfl, hb1⟩
      have st1 := bl_step (bl_alloc (Below.refl _ _) _) hb1
      have bl1 := st1
      have Ba_1 : Blk v1 (w.heap.size) 23 #[.int .i64 n, .int .i64 1] := (Blk.new _ _ _).below hb1
      have a_1_z : w.heap.size < v1.heap.size := Ba_1.lt
      have a_1_c0 : v1.cell? ⟨w.heap.size, 0, none⟩ = some (.int .i64 n) := (Ba_1.cell 0).trans rfl
      have a_1_f0 := Ba_1.frozen 0
      have a_1_c1 : v1.cell? ⟨w.heap.size, 1, none⟩ = some (.int .i64 1) := (Ba_1.cell 1).trans rfl
      have a_1_f1 := Ba_1.frozen 1
      go_wp2_with fail
      refine (H2.out _ bl1).mono ?_; rintro e v2 ⟨rfl, hb2⟩
      have st2 := bl_step (Below.refl _ _) hb2
      have bl2 := bl_step bl1 st2
      clear a_1_z a_1_c0 a_1_f0 a_1_c1 a_1_f1
      have Ba_2 := Ba_1.below st2
      have a_2_z : w.heap.size < v2.heap.size := Ba_2.lt
      have a_2_c0 : v2.cell? ⟨w.heap.size, 0, none⟩ = some (.int .i64 n) := (Ba_2.cell 0).trans rfl
      have a_2_f0 := Ba_2.frozen 0
      have a_2_c1 : v2.cell? ⟨w.heap.size, 1, none⟩ = some (.int .i64 1) := (Ba_2.cell 1).trans rfl
      have a_2_f1 := Ba_2.frozen 1
      go_wp2
      go_ret
      exact ⟨rfl, bl2⟩
    · rw [if_pos rfl, if_neg h1]
      have hd1 : (d == 1) = false := by simpa using h1
      have L1 := Lib.itoa_length_le n hn.1 hn.2
      have L2 := Lib.itoa_length_le d hd.1 hd.2
      generalize Lib.itoa n = s1 at H2 L1 ⊢
      generalize Lib.itoa d = s2 at H3 L2 ⊢
      clear h1
      go_enter Tryd.func19, Tryd.ntmps19
      go_wp2_with fail
      refine (H1.out _).mono ?_; rintro e v1 ⟨rfl, hb1⟩
      have st1 := bl_step (bl_alloc (Below.refl _ _) _) hb1
      have bl1 := st1
      have Ba_1 : Blk v1 (w.heap.size) 23 #[.int .i64 n, .int .i64 d] := (Blk.new _ _ _).below hb1
      have a_1_z : w.heap.size < v1.heap.size := Ba_1.lt
      have a_1_c0 : v1.cell? ⟨w.heap.size, 0, none⟩ = some (.int .i64 n) := (Ba_1.cell 0).trans rfl
      have a_1_f0 := Ba_1.frozen 0
      have a_1_c1 : v1.cell? ⟨w.heap.size, 1, none⟩ = some (.int .i64 d) := (Ba_1.cell 1).trans rfl
      have a_1_f1 := Ba_1.frozen 1
      go_wp2_with fail
      refine (H2.out _ bl1).mono ?_; rintro e v2 ⟨rfl, hb2⟩
      have st2 := bl_step (Below.refl _ _) hb2
      have bl2 := bl_step bl1 st2
      clear a_1_z a_1_c0 a_1_f0 a_1_c1 a_1_f1
      have Ba_2 := Ba_1.below st2
      have a_2_z : w.heap.size < v2.heap.size := Ba_2.lt
      have a_2_c0 : v2.cell? ⟨w.heap.size, 0, none⟩ = some (.int .i64 n) := (Ba_2.cell 0).trans rfl
      have a_2_f0 := Ba_2.frozen 0
      have a_2_c1 : v2.cell? ⟨w.heap.size, 1, none⟩ = some (.int .i64 d) := (Ba_2.cell 1).trans rfl
      have a_2_f1 := Ba_2.frozen 1
      go_wp2_with fail
      refine (H3.out _ bl2).mono ?_; rintro e v3 ⟨rfl, hb3⟩
      have st3 := bl_step (Below.refl _ _) hb3
      have bl3 := bl_step bl2 st3
      clear a_2_z a_2_c0 a_2_f0 a_2_c1 a_2_f1
      have Ba_3 := Ba_2.below st3
      have a_3_z : w.heap.size < v3.heap.size := Ba_3.lt
      have a_3_c0 : v3.cell? ⟨w.heap.size, 0, none⟩ = some (.int .i64 n) := (Ba_3.cell 0).trans rfl
      have a_3_f0 := Ba_3.frozen 0
      have a_3_c1 : v3.cell? ⟨w.heap.size, 1, none⟩ = some (.int .i64 d) := (Ba_3.cell 1).trans rfl
      have a_3_f1 := Ba_3.frozen 1
      go_wp2
      go_ret
      exact ⟨by rw [bytes_cat]; rfl, bl3⟩
end Go.Proofs.YtkdklmkcanjjfaaDoor
