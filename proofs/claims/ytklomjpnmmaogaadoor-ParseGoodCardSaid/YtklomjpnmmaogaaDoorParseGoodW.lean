/- The walk of ParseGood. -/
import Derived.Test.YtklomjpnmmaogaaDoorPW
import Derived.Test.YtklomjpnmmaogaaDoorIK
import Derived.Deep.QuietTactic
namespace Go.Proofs.YtklomjpnmmaogaaDoor
open Go Go.RowKit
set_option linter.unusedVariables false
set_option linter.unusedSimpArgs false
set_option maxRecDepth 100000

def zeroI : IData := ⟨0, 0, [], [], 0, []⟩
theorem zeroI_at (w : World) : InstAt w w.heap.size zeroI none 0 none 0 none 0 :=
  (Own3.inst (ti := 82) (ts := 80) (base := 0) ⟨own_nil _ _ _ _, r_nil _ _ _ _, s_nil _ _ _ _⟩ (by constructor <;> simp [zeroI, InI]))
theorem zeq_c (w : World) : Calls Tryd.prog 17 #[.agg #[.int .i64 0, .int .i64 0, .slice none 0 0, .slice none 0 0, .int .i64 0, .slice none 0 0], .agg #[.int .i64 0, .int .i64 0, .slice none 0 0, .slice none 0 0, .int .i64 0, .slice none 0 0]] w fun e w' => e = .returned (.bool true) ∧ Below w.heap.size w w' :=
  equal_any zeroI zeroI none none none none none none 0 0 0 0 0 0 w (zeroI_at w) (zeroI_at w)
theorem pfeeds : ∀ l : List UInt8, Lib.countByte l 10 = feeds l := fun l => by
  induction l with
  | nil => rfl
  | cons c r ih =>
    by_cases h : c = 10
    · subst h
      simp only [Lib.countByte, feeds, List.count_cons, List.countP_cons] at ih ⊢
      rw [ih]
      simp
    · have h2 : ¬ c.toNat = 10 := fun e => h (UInt8.toNat_inj.1 e)
      simp only [Lib.countByte, feeds, List.count_cons, List.countP_cons] at ih ⊢
      rw [ih]
      simp [h, h2]
theorem feeds_len (l : List UInt8) : feeds l ≤ l.length := List.countP_le_length
set_option maxHeartbeats 6400000 in
theorem parseGood_any (s : ByteArray) (hs : s.size ≤ 140737488355328) (w : World) (hw : LexW w) (hN : NamesW w) : Calls Tryd.prog 6 #[.string s] w fun e w' => e = .returned (.bool true) ∧ Below w.heap.size w w' := by
  have H1 := Lib.hid (parse_any s w hw hN)
  have HK := Lib.hid (fun w' (hb : Below w.heap.size w w') => pwakes_any w' (hw.below hb) (hN.below hb))
  have hpg := parse_good s.data.toList
  clear hw hN
  go_enter Tryd.func6, Tryd.ntmps6
  go_wp2_with fail
  refine H1.out.mono ?_; rintro e v1 ⟨hb1, ⟨a, b, er, hT, rfl⟩ | ⟨I, D1, d1, D2, d2, D3, d3, hT, rfl, hO⟩⟩
  · rw [hT] at hpg
    obtain ⟨a', b', e', hE, g1, g2, g3, g4⟩ : ∃ a' b' e', PT.bad a b er = .bad a' b' e' ∧ 1 ≤ a' ∧ 1 ≤ b' ∧ a' ≤ 1 + feeds s.data.toList ∧ ¬ e' = 0 := by
      rcases hpg with h | ⟨I, h, _⟩
      · exact h
      · cases h
    injection hE with h1 h2 h3
    subst h1 h2 h3
    have hne : (er != 0) = true := by simpa using g4
    have bl1 := bl_alloc (bl_alloc hb1 (.cells #[.int .i64 0, .int .i64 0, .slice none 0 0, .slice none 0 0, .int .i64 0, .slice none 0 0] 27)) (.cells #[.int .i64 a, .int .i64 b] 29)
    have N1 : Blk ((v1.alloc (.cells #[.int .i64 0, .int .i64 0, .slice none 0 0, .slice none 0 0, .int .i64 0, .slice none 0 0] 27)).alloc (.cells #[.int .i64 a, .int .i64 b] 29)) v1.heap.size 27 #[.int .i64 0, .int .i64 0, .slice none 0 0, .slice none 0 0, .int .i64 0, .slice none 0 0] := (Blk.new _ _ _).alloc _
    have N2 : Blk ((v1.alloc (.cells #[.int .i64 0, .int .i64 0, .slice none 0 0, .slice none 0 0, .int .i64 0, .slice none 0 0] 27)).alloc (.cells #[.int .i64 a, .int .i64 b] 29)) (v1.heap.size + 1) 29 #[.int .i64 a, .int .i64 b] := Blk.new' (by simp) _ _
    clear H1 hb1 g4 hpg hT
    go_wp2_with fail
    generalize (v1.alloc (.cells #[.int .i64 0, .int .i64 0, .slice none 0 0, .slice none 0 0, .int .i64 0, .slice none 0 0] 27)).alloc (.cells #[.int .i64 a, .int .i64 b] 29) = W1 at bl1 N1 N2 ⊢
    generalize v1.heap.size = x1 at N1 N2 ⊢
    have HCn := Lib.hid (fun w => Tryd.strings_Count_one s 10 w)
    rw [pfeeds] at HCn
    have hfl := feeds_len s.data.toList
    have hsz := Lib.size_eq s
    obtain ⟨f, hf⟩ : ∃ f, feeds s.data.toList = f := ⟨_, rfl⟩
    rw [hf] at HCn g3 hfl
    clear hf
    have w1 : IntKind.i64.wrap ((1 : Int) + f) = 1 + f := by rw [IntKind.wrap_i64]; omega
    have q1 : (1 : Int) ≤ a := by omega
    have q2 : (1 : Int) ≤ b := by omega
    have q3 : (a : Int) ≤ 1 + f := by omega
    clear g1 g2 g3 hfl hsz
    have p_z : x1 < W1.heap.size := N1.lt
    have p_c0 : W1.cell? ⟨x1, 0, none⟩ = some (.int .i64 0) := (N1.cell 0).trans rfl
    have p_f0 := N1.frozen 0
    have p_c1 : W1.cell? ⟨x1, 1, none⟩ = some (.int .i64 0) := (N1.cell 1).trans rfl
    have p_f1 := N1.frozen 1
    have p_c2 : W1.cell? ⟨x1, 2, none⟩ = some (.slice none 0 0) := (N1.cell 2).trans rfl
    have p_f2 := N1.frozen 2
    have p_c3 : W1.cell? ⟨x1, 3, none⟩ = some (.slice none 0 0) := (N1.cell 3).trans rfl
    have p_f3 := N1.frozen 3
    have p_c4 : W1.cell? ⟨x1, 4, none⟩ = some (.int .i64 0) := (N1.cell 4).trans rfl
    have p_f4 := N1.frozen 4
    have p_c5 : W1.cell? ⟨x1, 5, none⟩ = some (.slice none 0 0) := (N1.cell 5).trans rfl
    have p_f5 := N1.frozen 5
    have q_z : x1 + 1 < W1.heap.size := N2.lt
    have q_c0 : W1.cell? ⟨x1 + 1, 0, none⟩ = some (.int .i64 a) := (N2.cell 0).trans rfl
    have q_f0 := N2.frozen 0
    have q_c1 : W1.cell? ⟨x1 + 1, 1, none⟩ = some (.int .i64 b) := (N2.cell 1).trans rfl
    have q_f1 := N2.frozen 1
    go_region_held3 (fun w' => w'.cell? ⟨x1, 0, none⟩ = some (.int .i64 0) ∧ w'.cell? ⟨x1, 1, none⟩ = some (.int .i64 0) ∧ w'.cell? ⟨x1, 2, none⟩ = some (.slice none 0 0) ∧ w'.cell? ⟨x1, 3, none⟩ = some (.slice none 0 0) ∧ w'.cell? ⟨x1, 4, none⟩ = some (.int .i64 0) ∧ w'.cell? ⟨x1, 5, none⟩ = some (.slice none 0 0) ∧ w'.cell? ⟨x1 + 1, 0, none⟩ = some (.int .i64 a) ∧ w'.cell? ⟨x1 + 1, 1, none⟩ = some (.int .i64 b)) (go_keep) (first | (go_at_call 9; with_reducible refine (HK.out _ (bl_drew bl1)).mono ?_; rintro e v2 ⟨rfl, hb2⟩; have bl2 := bl_step (bl_drew bl1) hb2; have N3 := (N1.below (bl_drew (Below.refl _ _))).below hb2; have N4 := (N2.below (bl_drew (Below.refl _ _))).below hb2; clear bl1 N1 N2; clear p_z p_c0 p_f0 p_c1 p_f1 p_c2 p_f2 p_c3 p_f3 p_c4 p_f4 p_c5 p_f5; clear q_z q_c0 q_f0 q_c1 q_f1; have p_z : x1 < v2.heap.size := N3.lt; have p_c0 : v2.cell? ⟨x1, 0, none⟩ = some (.int .i64 0) := (N3.cell 0).trans rfl; have p_f0 := N3.frozen 0; have p_c1 : v2.cell? ⟨x1, 1, none⟩ = some (.int .i64 0) := (N3.cell 1).trans rfl; have p_f1 := N3.frozen 1; have p_c2 : v2.cell? ⟨x1, 2, none⟩ = some (.slice none 0 0) := (N3.cell 2).trans rfl; have p_f2 := N3.frozen 2; have p_c3 : v2.cell? ⟨x1, 3, none⟩ = some (.slice none 0 0) := (N3.cell 3).trans rfl; have p_f3 := N3.frozen 3; have p_c4 : v2.cell? ⟨x1, 4, none⟩ = some (.int .i64 0) := (N3.cell 4).trans rfl; have p_f4 := N3.frozen 4; have p_c5 : v2.cell? ⟨x1, 5, none⟩ = some (.slice none 0 0) := (N3.cell 5).trans rfl; have p_f5 := N3.frozen 5; have q_z : x1 + 1 < v2.heap.size := N4.lt; have q_c0 : v2.cell? ⟨x1 + 1, 0, none⟩ = some (.int .i64 a) := (N4.cell 0).trans rfl; have q_f0 := N4.frozen 0; have q_c1 : v2.cell? ⟨x1 + 1, 1, none⟩ = some (.int .i64 b) := (N4.cell 1).trans rfl; have q_f1 := N4.frozen 1) | (go_at_call 18; with_reducible refine (HCn.out _).mono ?_; rintro e v3 ⟨rfl, rfl⟩) | (go_at_call 17; with_reducible refine (zeq_c _).mono ?_; rintro e v4 ⟨rfl, hb4⟩; have bl4 := bl_step bl2 hb4; have N5 := N3.below hb4; have N6 := N4.below hb4; clear N3 N4; clear p_z p_c0 p_f0 p_c1 p_f1 p_c2 p_f2 p_c3 p_f3 p_c4 p_f4 p_c5 p_f5; clear q_z q_c0 q_f0 q_c1 q_f1; have p_z : x1 < v4.heap.size := N5.lt; have p_c0 : v4.cell? ⟨x1, 0, none⟩ = some (.int .i64 0) := (N5.cell 0).trans rfl; have p_f0 := N5.frozen 0; have p_c1 : v4.cell? ⟨x1, 1, none⟩ = some (.int .i64 0) := (N5.cell 1).trans rfl; have p_f1 := N5.frozen 1; have p_c2 : v4.cell? ⟨x1, 2, none⟩ = some (.slice none 0 0) := (N5.cell 2).trans rfl; have p_f2 := N5.frozen 2; have p_c3 : v4.cell? ⟨x1, 3, none⟩ = some (.slice none 0 0) := (N5.cell 3).trans rfl; have p_f3 := N5.frozen 3; have p_c4 : v4.cell? ⟨x1, 4, none⟩ = some (.int .i64 0) := (N5.cell 4).trans rfl; have p_f4 := N5.frozen 4; have p_c5 : v4.cell? ⟨x1, 5, none⟩ = some (.slice none 0 0) := (N5.cell 5).trans rfl; have p_f5 := N5.frozen 5; have q_z : x1 + 1 < v4.heap.size := N6.lt; have q_c0 : v4.cell? ⟨x1 + 1, 0, none⟩ = some (.int .i64 a) := (N6.cell 0).trans rfl; have q_f0 := N6.frozen 0; have q_c1 : v4.cell? ⟨x1 + 1, 1, none⟩ = some (.int .i64 b) := (N6.cell 1).trans rfl; have q_f1 := N6.frozen 1))
    all_goals (go_wp2_with fail; go_ret; exact ⟨rfl, bl4⟩)
  · rw [hT] at hpg
    obtain ⟨J, hE, hM⟩ : ∃ J, PT.ok I = .ok J ∧ MayD J := by
      rcases hpg with ⟨_, _, _, h, _⟩ | h
      · cases h
      · exact h
    injection hE with hE
    subst hE
    have hck := may_check hM
    have bs := bl_alloc (bl_alloc (Below.refl v1.heap.size v1) (.cells #[.int .i64 I.kind, .int .i64 I.cap, .slice D1 I.items.length d1, .slice D2 I.cost.length d2, .int .i64 I.size, .slice D3 I.sets.length d3] 27)) (.cells #[.int .i64 0, .int .i64 0] 29)
    have bl1 := bl_step hb1 bs
    have N1 : Blk ((v1.alloc (.cells #[.int .i64 I.kind, .int .i64 I.cap, .slice D1 I.items.length d1, .slice D2 I.cost.length d2, .int .i64 I.size, .slice D3 I.sets.length d3] 27)).alloc (.cells #[.int .i64 0, .int .i64 0] 29)) v1.heap.size 27 #[.int .i64 I.kind, .int .i64 I.cap, .slice D1 I.items.length d1, .slice D2 I.cost.length d2, .int .i64 I.size, .slice D3 I.sets.length d3] := (Blk.new _ _ _).alloc _
    have N2 : Blk ((v1.alloc (.cells #[.int .i64 I.kind, .int .i64 I.cap, .slice D1 I.items.length d1, .slice D2 I.cost.length d2, .int .i64 I.size, .slice D3 I.sets.length d3] 27)).alloc (.cells #[.int .i64 0, .int .i64 0] 29)) (v1.heap.size + 1) 29 #[.int .i64 0, .int .i64 0] := Blk.new' (by simp) _ _
    have HI := Lib.hid ((hO.below bs).inst (may_in hM))
    clear H1 hb1 hpg hT bs hO
    go_wp2_with fail
    generalize (v1.alloc (.cells #[.int .i64 I.kind, .int .i64 I.cap, .slice D1 I.items.length d1, .slice D2 I.cost.length d2, .int .i64 I.size, .slice D3 I.sets.length d3] 27)).alloc (.cells #[.int .i64 0, .int .i64 0] 29) = W1 at bl1 N1 N2 HI ⊢
    generalize v1.heap.size = x1 at N1 N2 ⊢
    refine (HK.out _ bl1).mono ?_; rintro e v2 ⟨rfl, hb2⟩
    have bl2 := bl_step bl1 hb2
    have M1 := N1.below hb2
    have M2 := N2.below hb2
    have HC := Lib.hid (check_any I D1 D2 D3 d1 d2 d3 v2 (HI.out.below hb2))
    rw [hck] at HC
    clear N1 N2 HI hb2 bl1 hck hM HK
    have p_z : x1 < v2.heap.size := M1.lt
    have p_c0 : v2.cell? ⟨x1, 0, none⟩ = some (.int .i64 I.kind) := (M1.cell 0).trans rfl
    have p_f0 := M1.frozen 0
    have p_c1 : v2.cell? ⟨x1, 1, none⟩ = some (.int .i64 I.cap) := (M1.cell 1).trans rfl
    have p_f1 := M1.frozen 1
    have p_c2 : v2.cell? ⟨x1, 2, none⟩ = some (.slice D1 I.items.length d1) := (M1.cell 2).trans rfl
    have p_f2 := M1.frozen 2
    have p_c3 : v2.cell? ⟨x1, 3, none⟩ = some (.slice D2 I.cost.length d2) := (M1.cell 3).trans rfl
    have p_f3 := M1.frozen 3
    have p_c4 : v2.cell? ⟨x1, 4, none⟩ = some (.int .i64 I.size) := (M1.cell 4).trans rfl
    have p_f4 := M1.frozen 4
    have p_c5 : v2.cell? ⟨x1, 5, none⟩ = some (.slice D3 I.sets.length d3) := (M1.cell 5).trans rfl
    have p_f5 := M1.frozen 5
    have q_z : x1 + 1 < v2.heap.size := M2.lt
    have q_c0 : v2.cell? ⟨x1 + 1, 0, none⟩ = some (.int .i64 0) := (M2.cell 0).trans rfl
    have q_f0 := M2.frozen 0
    have q_c1 : v2.cell? ⟨x1 + 1, 1, none⟩ = some (.int .i64 0) := (M2.cell 1).trans rfl
    have q_f1 := M2.frozen 1
    go_wp2_with fail
    refine HC.out.mono ?_; rintro e v3 ⟨rfl, hb3⟩
    go_wp2_with fail
    go_ret
    exact ⟨rfl, bl_step bl2 hb3⟩
theorem ParseGood_walk (s : ByteArray) (w : World) (hw : LexW w) (hN : NamesW w) (hs : s.size ≤ 140737488355328) : Calls Tryd.prog 6 #[.string s] w fun e w' => e = .returned (.bool true) ∧ Below w.heap.size w w' := parseGood_any s hs w hw hN
end Go.Proofs.YtklomjpnmmaogaaDoor
