/- The walk of LexLines. -/
import Derived.Test.YtidpenifabojnaaDoorLY
import Derived.Test.YtidpenifabojnaaDoorLQ
import Derived.Test.YtidpenifabojnaaDoorLJ
namespace Go.Proofs.YtidpenifabojnaaDoor
open Go Go.RowKit
set_option linter.unusedVariables false
set_option linter.unusedSimpArgs false
set_option maxRecDepth 100000

/-- What the walk asks of Go's own number of bytes that are sought at once: there is one. -/
structure MaxW (w : World) : Prop where
  out : ∃ m, w.cell? ⟨0, 0, none⟩ = some (.int .i64 m)
  lt : 0 < w.heap.size
theorem MaxW.below {w w' : World} (h : MaxW w) (hb : Below w.heap.size w w') : MaxW w' := by
  obtain ⟨m, hm⟩ := h.out
  exact ⟨⟨m, (hb.cell (p := ⟨0, 0, none⟩) h.lt).trans hm⟩, Nat.lt_of_lt_of_le h.lt hb.size⟩
theorem repl_c (z : ByteArray) (hz : z.size ≤ 100) (w : World) (hm : MaxW w) : Calls Tryd.prog 13 #[.string z, .string ⟨#[10]⟩, .string ⟨#[32]⟩] w fun e w' => ∃ y, e = .returned (.string y) ∧ NoFeed y ∧ y.size = z.size ∧ Below w.heap.size w w' := by
  obtain ⟨m, hm⟩ := hm.out
  have hc : Lib.countB z ⟨#[10]⟩ ≤ z.size := by
    have : Lib.countB z ⟨#[10]⟩ = Lib.count z.data.toList [10] := rfl
    rw [this, Lib.count_one, Lib.size_eq]
    exact List.count_le_length
  have h1 : (⟨#[10]⟩ : ByteArray).size = 1 := rfl
  have h2 : (⟨#[32]⟩ : ByteArray).size = 1 := rfl
  refine (Tryd.strings_ReplaceAll z ⟨#[10]⟩ ⟨#[32]⟩ m w (by omega) hm (by omega) (by rw [h2]; omega)).mono fun e w' ⟨he, hb⟩ => ?_
  obtain ⟨r1, r2⟩ := repl_all z.data.toList
  exact ⟨_, he, by simpa [NoFeed] using r1, by rw [Lib.size_eq, Lib.size_eq z]; exact r2, hb⟩
theorem lex_end {w w' : World} {T : LexR} {e : Ending} (h : LexPost w T e w') : ∃ D n d, ∃ pa pc : Nat, ∃ er : Int, e = .returned (.tuple #[.slice D n d, .agg #[.int .i64 pa, .int .i64 pc], .int .i64 er]) ∧ Below w.heap.size w w' := by
  rcases h with ⟨⟨a, c, er, _, _, rfl⟩ | ⟨L, D, d, _, rfl, _⟩, hb⟩
  · exact ⟨none, 0, 0, a, c, er, rfl, hb⟩
  · exact ⟨D, L.length, d, 0, 0, 0, rfl, hb⟩
theorem lex_lineT {s : List UInt8} (hs : s.length ≤ 3000) : LineLe 3001 (lexT s) := by
  unfold lexT
  rw [if_neg (by omega)]
  exact (lex_line s.length s 1 1 false (Nat.le_refl _)).mono (by omega)
theorem lexT_len {s : List UInt8} {L l : List Tok} {a b : Nat} (hL : L = l ++ [⟨3, [], 0, a, b⟩]) (hT : lexT s = .ok L) : l.length ≤ 2097153 := by
  obtain ⟨_, _, _, _, _, _, _, hw⟩ := lexT_shape hT
  have := len_wt L
  rw [hL] at this hw
  rw [List.length_append] at this
  omega
theorem cat_list (x out : List UInt8) (s t : ByteArray) (hs : s.data.toList = x) : (s ++ ⟨#[32, 35]⟩ ++ ⟨out.toArray⟩ ++ ⟨#[10]⟩ ++ t).data.toList = x ++ [32, 35] ++ out ++ [10] ++ t.data.toList := by
  subst hs
  simp [ByteArray.data_append]
theorem ext_le (s : ByteArray) (c : Nat) : (s.extract 0 (min (s.size : Int) c).toNat).size ≤ c := by
  rw [ByteArray.size_extract]
  omega
set_option maxHeartbeats 25600000 in
theorem LexLines_walk (s t note : ByteArray) (w : World) (hw : LexW w) (hu : U8W w) (hm : MaxW w) (hs : s.size ≤ 140737488355328) (ht : t.size ≤ 140737488355328) (hno : note.size ≤ 140737488355328) :
    Calls Tryd.prog 6 #[.string s, .string t, .string note] w fun e w' => e = .returned (.bool true) ∧ Below w.heap.size w w' := by
  have HW := Lib.hid (fun w' (hb : Below w.heap.size w w') => hw.below hb)
  have HU := Lib.hid (fun w' (hb : Below w.heap.size w w') => hu.below hb)
  have HM := Lib.hid (fun w' (hb : Below w.heap.size w w') => hm.below hb)
  clear hw hu hm
  have a0 : (0 : Int) ≤ min (s.size : Int) 3000 := by omega
  have a1 : min (s.size : Int) 3000 ≤ s.size := by omega
  have b0 : (0 : Int) ≤ min (t.size : Int) 3000 := by omega
  have b1 : min (t.size : Int) 3000 ≤ t.size := by omega
  have c0 : (0 : Int) ≤ min (note.size : Int) 60 := by omega
  have c1 : min (note.size : Int) 60 ≤ note.size := by omega
  have hx0 := ext_le s 3000
  have hy0 := ext_le t 3000
  have hz0 := ext_le note 60
  obtain ⟨x, ex⟩ : ∃ x, s.extract 0 (min (s.size : Int) 3000).toNat = x := ⟨_, rfl⟩
  obtain ⟨tt, et⟩ : ∃ x, t.extract 0 (min (t.size : Int) 3000).toNat = x := ⟨_, rfl⟩
  obtain ⟨z, ez⟩ : ∃ x, note.extract 0 (min (note.size : Int) 60).toNat = x := ⟨_, rfl⟩
  have hx1 : x.size ≤ 3000 := by rw [← ex]; exact hx0
  have hy1 : tt.size ≤ 3000 := by rw [← et]; exact hy0
  have hz1 : z.size ≤ 60 := by rw [← ez]; exact hz0
  clear hx0 hy0 hz0
  go_enter Tryd.func6, Tryd.ntmps6
  go_wp2_with fail
  refine wp_region_pre (S := fun _ => True) 11 (by kernel_rfl) (by kernel_rfl) ?_ (fun hH0 => ?_)
  · exact trivial
  refine PreG.take (i := 0) (v := ?vv1) rfl (by kernel_rfl) (by kernel_rfl) (fun _ _ _ h => h) (Or.inl ⟨by rfl, ?hy1⟩) (by assumption) ?rest1
  case hy1 => intro w hSw; (try dsimp only at hSw); first | (go_simp; done) | (go_simp; with_reducible rfl)
  try simp only [Act.put, List.getElem_toArray, List.getElem_cons_zero, List.getElem_cons_succ, List.setIfInBounds_toArray, List.set_cons_zero, List.set_cons_succ]
  refine PreG.take (i := 1) (v := ?vv2) rfl (by kernel_rfl) (by kernel_rfl) (fun _ _ _ h => h) (Or.inl ⟨by rfl, ?hy2⟩) (by assumption) ?rest2
  case hy2 => intro w hSw; (try dsimp only at hSw); first | (go_simp; done) | (go_simp; with_reducible rfl)
  try simp only [Act.put, List.getElem_toArray, List.getElem_cons_zero, List.getElem_cons_succ, List.setIfInBounds_toArray, List.set_cons_zero, List.set_cons_succ]
  refine PreG.take (i := 2) (v := ?vv3) rfl (by kernel_rfl) (by kernel_rfl) (fun _ _ _ h => h) (Or.inl ⟨by rfl, ?hy3⟩) (by assumption) ?rest3
  case hy3 => intro w hSw; (try dsimp only at hSw); first | (go_simp; done) | (go_simp; with_reducible rfl)
  try simp only [Act.put, List.getElem_toArray, List.getElem_cons_zero, List.getElem_cons_succ, List.setIfInBounds_toArray, List.set_cons_zero, List.set_cons_succ]
  refine PreG.take (i := 3) (v := ?vv4) rfl (by kernel_rfl) (by kernel_rfl) (fun _ _ _ h => h) (Or.inl ⟨by rfl, ?hy4⟩) (by assumption) ?rest4
  case hy4 => intro w hSw; (try dsimp only at hSw); first | (go_simp; done) | (go_simp; with_reducible rfl)
  try simp only [Act.put, List.getElem_toArray, List.getElem_cons_zero, List.getElem_cons_succ, List.setIfInBounds_toArray, List.set_cons_zero, List.set_cons_succ]
  refine PreG.take (i := 4) (v := ?vv5) rfl (by kernel_rfl) (by kernel_rfl) (fun _ _ _ h => h) (Or.inl ⟨by rfl, ?hy5⟩) (by assumption) ?rest5
  case hy5 => intro w hSw; (try dsimp only at hSw); first | (go_simp; done) | (go_simp; with_reducible rfl)
  try simp only [Act.put, List.getElem_toArray, List.getElem_cons_zero, List.getElem_cons_succ, List.setIfInBounds_toArray, List.set_cons_zero, List.set_cons_succ]
  refine PreG.take (i := 5) (v := ?vv6) rfl (by kernel_rfl) (by kernel_rfl) (fun _ _ _ h => h) (Or.inl ⟨by rfl, ?hy6⟩) (by assumption) ?rest6
  case hy6 => intro w hSw; (try dsimp only at hSw); first | (go_simp; done) | (go_simp; with_reducible rfl)
  try simp only [Act.put, List.getElem_toArray, List.getElem_cons_zero, List.getElem_cons_succ, List.setIfInBounds_toArray, List.set_cons_zero, List.set_cons_succ]
  refine PreG.take (i := 6) (v := ?vv7) rfl (by kernel_rfl) (by kernel_rfl) (fun _ _ _ h => h) (Or.inl ⟨by rfl, ?hy7⟩) (by assumption) ?rest7
  case hy7 => intro w hSw; (try dsimp only at hSw); first | (go_simp; done) | (go_simp; with_reducible rfl)
  try simp only [Act.put, List.getElem_toArray, List.getElem_cons_zero, List.getElem_cons_succ, List.setIfInBounds_toArray, List.set_cons_zero, List.set_cons_succ]
  refine PreG.take (i := 7) (v := ?vv8) rfl (by kernel_rfl) (by kernel_rfl) (fun _ _ _ h => h) (Or.inl ⟨by rfl, ?hy8⟩) (by assumption) ?rest8
  case hy8 => intro w hSw; (try dsimp only at hSw); first | (go_simp; done) | (go_simp; with_reducible rfl)
  try simp only [Act.put, List.getElem_toArray, List.getElem_cons_zero, List.getElem_cons_succ, List.setIfInBounds_toArray, List.set_cons_zero, List.set_cons_succ]
  refine PreG.take (i := 8) (v := ?vv9) rfl (by kernel_rfl) (by kernel_rfl) (fun _ _ _ h => h) (Or.inl ⟨by rfl, ?hy9⟩) (by assumption) ?rest9
  case hy9 => intro w hSw; (try dsimp only at hSw); first | (go_simp; done) | (go_simp; with_reducible rfl)
  try simp only [Act.put, List.getElem_toArray, List.getElem_cons_zero, List.getElem_cons_succ, List.setIfInBounds_toArray, List.set_cons_zero, List.set_cons_succ]
  refine PreG.take (i := 9) (v := ?vv10) rfl (by kernel_rfl) (by kernel_rfl) (fun _ _ _ h => h) (Or.inl ⟨by rfl, ?hy10⟩) (by assumption) ?rest10
  case hy10 => intro w hSw; (try dsimp only at hSw); first | (go_simp; done) | (go_simp; with_reducible rfl)
  try simp only [Act.put, List.getElem_toArray, List.getElem_cons_zero, List.getElem_cons_succ, List.setIfInBounds_toArray, List.set_cons_zero, List.set_cons_succ]
  refine PreG.ready (rs := [10]) (by kernel_rfl) (by kernel_rfl) ?_
  refine AllPre.cons rfl (fun K hK => ?_) ?_
  · go_simp
    refine hK.out _ _ ?_ (fun hH1 => ?_)
    · exact trivial
    clear hK K hH0
    try simp only [Act.put, List.getElem_toArray, List.getElem_cons_zero, List.getElem_cons_succ, List.setIfInBounds_toArray, List.set_cons_zero, List.set_cons_succ]
    refine PreG.done (by kernel_rfl) ?_
    simp only [List.drop_succ_cons, List.drop_zero]
    clear hH1
    go_wp2_with fail
    refine (repl_c z (by omega) _ (HM.out _ (bl_drew (Below.refl _ _)))).mono ?_; rintro e v1 ⟨y, rfl, hyn, hys, hb1⟩
    have bl1 := bl_step (bl_drew (Below.refl _ _)) hb1
    clear ex et ez a0 a1 b0 b1 c0 c1 hb1
    go_wp2_with fail
    refine (valid_any y (by omega) hyn v1 (HU.out _ bl1)).mono ?_; rintro e v2 ⟨out, n, rfl, hv, hol, hb2⟩
    have bl2 := bl_step bl1 hb2
    have HV := Lib.hid hv
    have hol2 : out.length ≤ 60 := by omega
    clear hyn hys hb2 bl1 hv hol hz1
    have HL1 := Lib.hid (lex_any x v2 (HW.out _ bl2))
    have HK := Lib.hid (fun w' (hb : Below w.heap.size w w') => wakes_any w' (HW.out _ hb))
    have xl : x.data.toList.length ≤ 3000 := by rw [← Lib.size_eq]; exact hx1
    have tl : tt.data.toList.length ≤ 3000 := by rw [← Lib.size_eq]; exact hy1
    have q1 : ¬ 9223372036854775807 < x.size + 2 := by omega
    have q2 : ¬ 9223372036854775807 < x.size + 2 + out.length := by omega
    have q3 : ¬ 9223372036854775807 < x.size + 2 + out.length + 1 := by omega
    have q4 : ¬ 9223372036854775807 < x.size + 2 + out.length + 1 + tt.size := by omega
    have ec := cat_list _ out x tt rfl
    go_wp2_with fail
    refine HL1.out.mono ?_; rintro e v3 ⟨⟨pa, pc, er, hne, hT, rfl⟩ | ⟨L, D, d, hT, rfl, ho⟩, hb3⟩
    · have hne' : (er == 0) = false := by simpa using hne
      have bl3 := bl_step bl2 (bl_step hb3 (bl_alloc (Below.refl _ _) (.cells #[.int .i64 pa, .int .i64 pc] 25)))
      clear hT hb3 HL1 ec
      have HL2 := Lib.hid ((lex_any tt _ (HW.out _ bl3)).mono fun _ _ h => lex_end h)
      go_wp2_with fail
      refine HL2.out.mono ?_; rintro e v4 ⟨D2, n2, d2, pa2, pc2, er2, rfl, hb4⟩
      have bl4 := bl_step bl3 (bl_step hb4 (bl_alloc (Below.refl _ _) (.cells #[.int .i64 pa2, .int .i64 pc2] 25)))
      clear hb4 HL2
      have HL3 := Lib.hid ((lex_any (x ++ ⟨#[32, 35]⟩ ++ ⟨out.toArray⟩ ++ ⟨#[10]⟩ ++ tt) _ (HW.out _ bl4)).mono fun _ _ h => lex_end h)
      go_wp2_with fail
      refine HL3.out.mono ?_; rintro e v5 ⟨D3, n3, d3, pa3, pc3, er3, rfl, hb5⟩
      have bl5 := bl_step bl4 (bl_step hb5 (bl_alloc (Below.refl _ _) (.cells #[.int .i64 pa3, .int .i64 pc3] 25)))
      clear hb5 HL3
      go_wp2_with fail
      refine (HK.out _ bl5).mono ?_; rintro e v6 ⟨rfl, hb6⟩
      have bl6 := bl_step bl5 hb6
      go_wp2_with fail
      refine (HK.out _ bl6).mono ?_; rintro e v7 ⟨rfl, hb7⟩
      have bl7 := bl_step bl6 hb7
      go_wp2
      go_ret
      exact ⟨rfl, bl7⟩
    · obtain ⟨_, _, l, la, ca, hL, _, _⟩ := lexT_shape hT
      have hlb0 := lexT_len hL hT
      have hT3 := lines_ok HV.out xl tl (by omega) (hL ▸ hT)
      rw [← ec] at hT3
      have hLT := lex_lineT tl
      have hfl := feeds_le x.data.toList
      have hCn := fun w => Tryd.strings_Count_one x 10 w
      rw [feeds_count] at hCn
      generalize feeds x.data.toList = fl at hT3 hfl hCn
      obtain ⟨D', d', e1, hd1, hd2⟩ := own_slice ho
      injection e1 with e1 _ e2
      subst e1 e2
      obtain ⟨nL, hnL⟩ : ∃ n, L.length = n := ⟨_, rfl⟩
      have RL := RdT.of_own ho
      rw [hnL] at hd1 ⊢
      have hnl : nL = l.length + 1 := by rw [← hnL, hL]; simp
      have st3 := bl_step hb3 (bl_alloc (Below.refl _ _) (.cells #[.int .i64 0, .int .i64 0] 25))
      have bl3 := bl_step bl2 st3
      replace RL := Lib.hid (RL.keep (Alike.of_below (bl_alloc (Below.refl v3.heap.size v3) (.cells #[.int .i64 0, .int .i64 0] 25)) (Nat.le_refl _)))
      have HL2 := Lib.hid (lex_any tt _ (HW.out _ bl3))
      have HT3 := Lib.hid hT3
      have HC := Lib.hid hCn
      have HhL := Lib.hid hL
      have Hnl := Lib.hid hnl
      have HnL := Lib.hid hnL
      have HLT := Lib.hid hLT
      clear hT hb3 HL1 ho st3 hT3 hCn hL hnl hnL hLT
      go_wp2_with fail
      refine HL2.out.mono ?_; rintro e v4 ⟨⟨pa, pc, er, hne, hT2, rfl⟩ | ⟨M, D2, d2, hT2, rfl, ho2⟩, hb4⟩
      · have hT3 := HT3.out
        rw [hT2] at hT3
        have hT3 : lexT (x ++ ⟨#[32, 35]⟩ ++ ⟨out.toArray⟩ ++ ⟨#[10]⟩ ++ tt).data.toList = .err (pa + (1 + fl)) pc er := hT3
        have hpa : pa ≤ 3001 := by have := HLT.out; rw [hT2] at this; exact this
        have hne' : (er == 0) = false := by simpa using hne
        have bl4 := bl_step bl3 (bl_step hb4 (bl_alloc (Below.refl _ _) (.cells #[.int .i64 pa, .int .i64 pc] 25)))
        have B4 : Blk (v4.alloc (.cells #[.int .i64 pa, .int .i64 pc] 25)) v4.heap.size 25 #[.int .i64 pa, .int .i64 pc] := Blk.new _ _ _
        have HL3 := Lib.hid (lex_any (x ++ ⟨#[32, 35]⟩ ++ ⟨out.toArray⟩ ++ ⟨#[10]⟩ ++ tt) _ (HW.out _ bl4))
        rw [hT3] at HL3
        clear hT2 hT3 HT3 HL2 hb4 HLT ec
        go_wp2_with fail
        refine HL3.out.mono ?_; rintro e v5 ⟨⟨pa3, pc3, er3, _, hE, rfl⟩ | ⟨_, _, _, hE, _⟩, hb5⟩
        · injection hE with h1 h2 h3
          subst h1 h2 h3
          have st5 := bl_step hb5 (bl_alloc (Below.refl _ _) (.cells #[.int .i64 ((pa + (1 + fl) : Nat) : Int), .int .i64 pc] 25))
          have bl5 := bl_step bl4 st5
          replace B4 := B4.below st5
          have B5 : Blk (v5.alloc (.cells #[.int .i64 ((pa + (1 + fl) : Nat) : Int), .int .i64 pc] 25)) v5.heap.size 25 #[.int .i64 ((pa + (1 + fl) : Nat) : Int), .int .i64 pc] := Blk.new _ _ _
          clear hb5 HL3 st5
          go_wp2_with fail
          refine (HK.out _ bl5).mono ?_; rintro e v6 ⟨rfl, hb6⟩
          have bl6 := bl_step bl5 hb6
          replace B4 := B4.below hb6
          replace B5 := B5.below hb6
          obtain ⟨pz, hpz⟩ : ∃ pz, pa + (1 + fl) = pz := ⟨_, rfl⟩
          rw [hpz] at B5
          have w1 : IntKind.i64.wrap ((1 : Int) + fl) = 1 + fl := by rw [IntKind.wrap_i64]; omega
          have w2 : IntKind.i64.wrap ((pa : Int) + (1 + fl)) = pz := by rw [IntKind.wrap_i64]; omega
          replace hpz := Lib.hid hpz
          clear hb6
          have p_z : v4.heap.size < v6.heap.size := B4.lt
          have p_c0 : v6.cell? ⟨v4.heap.size, 0, none⟩ = some (.int .i64 pa) := (B4.cell 0).trans rfl
          have p_f0 := B4.frozen 0
          have p_c1 : v6.cell? ⟨v4.heap.size, 1, none⟩ = some (.int .i64 pc) := (B4.cell 1).trans rfl
          have p_f1 := B4.frozen 1
          have q_z : v5.heap.size < v6.heap.size := B5.lt
          have q_c0 : v6.cell? ⟨v5.heap.size, 0, none⟩ = some (.int .i64 pz) := (B5.cell 0).trans rfl
          have q_f0 := B5.frozen 0
          have q_c1 : v6.cell? ⟨v5.heap.size, 1, none⟩ = some (.int .i64 pc) := (B5.cell 1).trans rfl
          have q_f1 := B5.frozen 1
          go_wp2_with fail
          refine (HC.out _).mono ?_; rintro e v7 ⟨rfl, hv⟩
          obtain rfl := hv.symm
          clear hv
          go_wp2
          go_ret
          exact ⟨by first | rfl | simp, bl6⟩
        · cases hE
      · obtain ⟨D', d', e1, hd3, hd4⟩ := own_slice ho2
        injection e1 with e1 _ e2
        subst e1 e2
        obtain ⟨nM, hnM⟩ : ∃ n, M.length = n := ⟨_, rfl⟩
        have RM := RdT.of_own ho2
        have hT3 := HT3.out
        rw [hT2] at hT3
        have hT3 : lexT (x ++ ⟨#[32, 35]⟩ ++ ⟨out.toArray⟩ ++ ⟨#[10]⟩ ++ tt).data.toList = .ok (l ++ M.map fun t => { t with line := t.line + (1 + fl) }) := hT3
        have hml : ∀ t ∈ M, t.line ≤ 3001 := by have := HLT.out; rw [hT2] at this; exact this
        have hM0 : 1 ≤ nM := by
          obtain ⟨_, _, l0, a0, b0, e0, _⟩ := lexT_shape hT2
          rw [← hnM, e0]; simp
        have hMw : nM ≤ 2097153 := by
          obtain ⟨_, _, l0, a0, b0, e0, _, hw0⟩ := lexT_shape hT2
          have := len_wt M
          omega
        rw [hnM] at hd3 ⊢
        have st4 := bl_step hb4 (bl_alloc (Below.refl _ _) (.cells #[.int .i64 0, .int .i64 0] 25))
        have bl4 := bl_step bl3 st4
        replace RL := Lib.hid (RL.out.keep (Alike.of_below st4 (bl_alloc (Below.refl v3.heap.size v3) _).size))
        replace RM := Lib.hid (RM.keep (Alike.of_below (bl_alloc (Below.refl v4.heap.size v4) (.cells #[.int .i64 0, .int .i64 0] 25)) (Nat.le_refl _)))
        have s34 : v3.heap.size ≤ v4.heap.size := Nat.le_trans (bl_alloc (Below.refl v3.heap.size v3) (.cells #[.int .i64 0, .int .i64 0] 25)).size hb4.size
        have HL3 := Lib.hid (lex_any (x ++ ⟨#[32, 35]⟩ ++ ⟨out.toArray⟩ ++ ⟨#[10]⟩ ++ tt) _ (HW.out _ bl4))
        rw [hT3] at HL3
        have Hml := Lib.hid hml
        have HnM := Lib.hid hnM
        clear hT2 hT3 HT3 HL2 hb4 HLT ec ho2 hml hnM st4
        go_wp2_with fail
        refine HL3.out.mono ?_; rintro e v5 ⟨⟨_, _, _, _, hE, _⟩ | ⟨N, D3, d3, hE, rfl, ho3⟩, hb5⟩
        · cases hE
        · injection hE with hE
          obtain ⟨D', d', e1, hd5, hd6⟩ := own_slice ho3
          injection e1 with e1 _ e2
          subst e1 e2
          obtain ⟨nN, hnN⟩ : ∃ n, N.length = n := ⟨_, rfl⟩
          have RN := RdT.of_own ho3
          have hN : nN = l.length + nM := by rw [← hnN, ← hE, ← HnM.out]; simp
          rw [hnN] at hd5 ⊢
          have st5 := bl_step hb5 (bl_alloc (Below.refl _ _) (.cells #[.int .i64 0, .int .i64 0] 25))
          have bl5 := bl_step bl4 st5
          have s45 : v4.heap.size ≤ v5.heap.size := Nat.le_trans (bl_alloc (Below.refl v4.heap.size v4) (.cells #[.int .i64 0, .int .i64 0] 25)).size hb5.size
          replace RL := Lib.hid (RL.out.keep (Alike.of_below st5 (Nat.le_trans s34 (bl_alloc (Below.refl v4.heap.size v4) _).size)))
          replace RM := Lib.hid (RM.out.keep (Alike.of_below st5 (bl_alloc (Below.refl v4.heap.size v4) _).size))
          replace RN := Lib.hid (RN.keep (Alike.of_below (bl_alloc (Below.refl v5.heap.size v5) (.cells #[.int .i64 0, .int .i64 0] 25)) (Nat.le_refl _)))
          have HN := Lib.hid hN
          have HE := Lib.hid hE
          have HnN := Lib.hid hnN
          clear hb5 HL3 st5 ho3 hN hE hnN
          go_wp2_with fail
          refine (HK.out _ bl5).mono ?_; rintro e v6 ⟨rfl, hb6⟩
          have bl6 := bl_step bl5 hb6
          have s5 : v5.heap.size ≤ (v5.alloc (.cells #[.int .i64 0, .int .i64 0] 25)).heap.size := (bl_alloc (Below.refl v5.heap.size v5) _).size
          replace RL := Lib.hid ((RL.out.keep (Alike.of_below hb6 (Nat.le_trans (Nat.le_trans s34 s45) s5))).more (Nat.le_trans (Nat.le_trans (Nat.le_trans s34 s45) s5) hb6.size))
          replace RM := Lib.hid ((RM.out.keep (Alike.of_below hb6 (Nat.le_trans s45 s5))).more (Nat.le_trans (Nat.le_trans s45 s5) hb6.size))
          replace RN := Lib.hid ((RN.out.keep (Alike.of_below hb6 s5)).more (Nat.le_trans s5 hb6.size))
          have hlb := hlb0
          have w1 : IntKind.i64.wrap ((1 : Int) + fl) = 1 + fl := by rw [IntKind.wrap_i64]; omega
          have w2 : IntKind.i64.wrap ((nL : Int) + nM) = nL + nM := by have := Hnl.out; rw [IntKind.wrap_i64]; omega
          have w3 : IntKind.i64.wrap ((nL : Int) + nM - 1) = nN := by have := Hnl.out; have := HN.out; rw [IntKind.wrap_i64]; omega
          clear hb6 s34 s45 s5
          go_wp2_with fail
          refine (HC.out _).mono ?_; rintro e v7 ⟨rfl, hv⟩
          obtain rfl := hv.symm
          clear hv
          go_wp2_with fail
          clear w1 w2 w3
          obtain ⟨nl, hnl2⟩ : ∃ n, l.length = n := ⟨_, rfl⟩
          have Hnl2 := Lib.hid hnl2
          clear hnl2
          have w4 : IntKind.i64.wrap ((nL : Int) - 1) = nl := by have := Hnl.out; have := Hnl2.out; rw [IntKind.wrap_i64]; omega
          have nLb : nL ≤ 2097154 := by have := Hnl.out; omega
          go_loopw [102] (fun vi wr => ∃ (k : Nat), vi = .int .i64 k ∧ k ≤ nN ∧ Hid (Below v6.heap.size v6 wr)) (fun vi _ => nN - (intOf vi).toNat)
          case atStart => exact ⟨0, rfl, Nat.zero_le _, Lib.hid (Below.refl _ _)⟩
          case round =>
            obtain ⟨k, rfl, hk, HWr⟩ := hrel
            by_cases hlt : k < nN
            · obtain ⟨u, hu⟩ : ∃ u, N[k]? = some u := ⟨_, List.getElem?_eq_getElem (by rw [HnN.out]; exact hlt)⟩
              have R3 := RN.out.keep (Alike.of_below HWr.out (Nat.le_refl _))
              obtain ⟨b, o, rfl, hb, x0, x1, x2, x3, x4⟩ := R3.at5 hu
              have i0 : (0 : Int) ≤ k := by omega
              have i1 : (k : Int) < nN := by omega
              by_cases hkl : k < nl
              · have hLk : L[k]? = some u := by
                  have h1 := HE.out
                  rw [← h1, List.getElem?_append_left (by rw [Hnl2.out]; exact hkl)] at hu
                  rw [HhL.out, List.getElem?_append_left (by rw [Hnl2.out]; exact hkl)]
                  exact hu
                have R1 := RL.out.keep (Alike.of_below HWr.out (Nat.le_refl _))
                obtain ⟨b1, o1, rfl, hb1, y0, y1, y2, y3, y4⟩ := R1.at5 hLk
                have i2 : (k : Int) < nl := by omega
                have i3 : (k : Int) < nL := by have := Hnl.out; have := Hnl2.out; omega
                have hbw : b1 < wr.heap.size := Nat.lt_of_lt_of_le hb1 HWr.out.size
                have ne1 : ¬ wr.heap.size = b1 := by omega
                have ne2 : ¬ wr.heap.size + 1 = b1 := by omega
                clear R3 R1 hu hLk
                go_wp2_with fail
                go_roundw
                case rel => exact ⟨k + 1, by go_num, by omega, Lib.hid (by (repeat (first | exact Below.refl _ _ | with_reducible assumption | exact HWr.out | refine bl_alloc ?_ _ | refine bl_set ?_ (by simp <;> omega) _)))⟩
                case measure => simp only [intOf]; omega
              · obtain ⟨j, hj⟩ : ∃ j, k - nl = j := ⟨_, rfl⟩
                have hjM : j < M.length := by have := HN.out; have := Hnl2.out; have := HnM.out; omega
                obtain ⟨v, hv⟩ : ∃ v, M[j]? = some v := ⟨_, List.getElem?_eq_getElem hjM⟩
                have huv : u = { v with line := v.line + (1 + fl) } := by
                  have h1 := HE.out
                  rw [← h1, List.getElem?_append_right (by rw [Hnl2.out]; omega), Hnl2.out, hj, List.getElem?_map, hv] at hu
                  injection hu with hu
                  exact hu.symm
                have hvl : v.line ≤ 3001 := Hml.out v (List.mem_of_getElem? hv)
                subst huv
                have R1 := RM.out.keep (Alike.of_below HWr.out (Nat.le_refl _))
                obtain ⟨b1, o1, rfl, hb1, y0, y1, y2, y3, y4⟩ := R1.at5 hv
                simp only at x0 x1 x2 x3 x4
                obtain ⟨ul, hul⟩ : ∃ n, v.line + (1 + fl) = n := ⟨_, rfl⟩
                rw [hul] at x3
                have i2 : ¬ (k : Int) < nl := by omega
                have i3 : (0 : Int) ≤ j := by omega
                have i4 : (j : Int) < nM := by have := HnM.out; omega
                have w5 : IntKind.i64.wrap ((k : Int) - nL) = (k : Int) - nL := by rw [IntKind.wrap_i64]; omega
                have w6 : IntKind.i64.wrap ((k : Int) - nL + 1) = j := by have := Hnl.out; have := Hnl2.out; rw [IntKind.wrap_i64]; omega
                have w7 : IntKind.i64.wrap ((v.line : Int) + (1 + fl)) = ul := by rw [IntKind.wrap_i64]; omega
                have hbw : b1 < wr.heap.size := Nat.lt_of_lt_of_le hb1 HWr.out.size
                have ne1 : ¬ wr.heap.size = b1 := by omega
                have ne2 : ¬ wr.heap.size + 1 = b1 := by omega
                replace hj := Lib.hid hj
                replace hul := Lib.hid hul
                clear R3 R1 hu hv hjM hvl
                go_wp2_with fail
                go_roundw
                case rel => exact ⟨k + 1, by go_num, by omega, Lib.hid (by (repeat (first | exact Below.refl _ _ | with_reducible assumption | exact HWr.out | refine bl_alloc ?_ _ | refine bl_set ?_ (by simp <;> omega) _)))⟩
                case measure => simp only [intOf]; omega
            · obtain rfl : k = nN := by omega
              have blr := bl_step bl6 HWr.out
              go_wp2
              go_ret
              exact ⟨rfl, blr⟩
  exact AllPre.nil
end Go.Proofs.YtidpenifabojnaaDoor
