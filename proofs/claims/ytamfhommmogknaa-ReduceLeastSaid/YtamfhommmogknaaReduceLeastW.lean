/- The walk of ReduceLeast. -/
import Derived.Test.YtamfhommmogknaaDT
import Derived.Test.YtamfhommmogknaaDX
namespace Go.Proofs.Ytamfhommmogknaa
open Go Go.RowKit
set_option linter.unusedVariables false
set_option linter.unusedSimpArgs false
set_option maxRecDepth 100000

theorem tame6 (c : List (List Int)) (no : List (List Bool)) (A1 A2 : Option Addr) (c1 c2 : Nat) (w : World) {B : Nat} (hI : TabAt w B c no A1 c1 A2 c2) :
    Calls Try.prog 7 #[.slice A1 c.length c1, .slice A2 no.length c2, .int .i64 6] w fun e w' => TamePost w 6 e w' := tame_any c no A1 A2 c1 c2 6 (by omega) w hI
theorem tmod100 (x : Int) : ∃ m, Int.tmod x 100 = m ∧ -99 ≤ m ∧ m ≤ 99 := by
  refine ⟨_, rfl, ?_⟩
  rcases Int.le_total 0 x with h | h
  · rw [Int.tmod_eq_emod_of_nonneg h]; omega
  · have e : x.tmod 100 = -((-x).tmod 100) := by rw [Int.neg_tmod]; simp
    rw [e, Int.tmod_eq_emod_of_nonneg (by omega)]; omega
theorem make_rowB {ops : Array Oper} {o : Oper} {rest : List Oper} {a : Act} {Q : Exit → Act → World → Prop} {w : World} {n : Nat} (hg : o.guard = none) (l : Operand) (hop : o.op = Op.makeSlice 43 l l) (hl : a.eval l = .int .i64 (n : Int)) (hn : n ≤ 70)
    (hK : ∀ w', w'.ownsRow w.heap.size 4 1 (.slice (some ⟨w.heap.size, 0, none⟩) n n) n ((List.replicate n false).map Value.bool) → Below w.heap.size w w' → wpList Try.prog ops Q rest (a.put o.dst (.slice (some ⟨w.heap.size, 0, none⟩) n n)) w') :
    wpList Try.prog ops Q (o :: rest) a w := by
  obtain ⟨ii, hii, hiz⟩ := Option.map_eq_some_iff.1 info_B
  simp only [Prod.mk.injEq] at hiz
  obtain ⟨z1, z2, z3⟩ := hiz
  refine wpList_make_full w hg l l 43 hop w.heap.size 4 ii (.bool false) 1 Try.underlying43 hii z1 z2 .i64 .i64 n n n hl hl rfl rfl (by rw [z3]; omega) (by unfold maxLen; omega) (Nat.le_refl _) (fun w' h1 h2 => hK w' ?_ (bl_grown (Below.refl _ _) h2 (fun k e => by cases e)))
  have e : (madeCells (Value.bool false).cells (n * 1)).toList = (List.replicate n false).map Value.bool := by
    rw [List.map_replicate]
    exact (congrArg (fun k => (madeCells #[Value.bool false] k).toList) (Nat.mul_one n)).trans (toList_madeCells_one _ _)
  rw [e] at h1
  exact h1
theorem snoc_in {l : List Int} {m : Int} (h : ∀ z ∈ l, InI z) (h1 : -99 ≤ m) (h2 : m ≤ 99) : ∀ z ∈ l ++ [m], InI z := fun z hz => by
  rcases List.mem_append.1 hz with h3 | h3
  · exact h z h3
  · simp at h3
    subst h3
    exact ⟨by omega, by omega⟩
set_option maxHeartbeats 12800000 in
theorem ReduceLeast_walk (c : List (List Int)) (no : List (List Bool)) (A1 A2 : Option Addr) (c1 c2 : Nat) (x : List (Int × Int)) (A3 : Option Addr) (c3 : Nat) (w : World) (hI : TabAt w w.heap.size c no A1 c1 A2 c2) (hx : RdP w w.heap.size A3 x) (hxc : x.length ≤ c3 ∧ c3 ≤ 9223372036854775807) (hxi : ∀ p ∈ x, InI p.1 ∧ InI p.2) :
    Calls Try.prog 5 #[.slice A1 c.length c1, .slice A2 no.length c2, .slice A3 x.length c3] w fun e w' => e = .returned (.bool true) ∧ Below w.heap.size w w' := by
  have N1 := hI.n1
  have N2 := hI.n2
  have HC := Lib.hid (cut_any c no A1 A2 c1 c2 w N1 N2)
  have HT := Lib.hid (hI.cut 70 70)
  have HX := Lib.hid hx
  clear hI hx hxi
  go_enter Try.func5, Try.ntmps5
  go_wp2_with fail
  (with_reducible refine HC.out.mono ?_); rintro e v1 ⟨rfl, hb1⟩
  generalize c.take 70 = cc at HT ⊢
  generalize no.take 70 = nn at HT ⊢
  have HT1 := Lib.hid (HT.out.below hb1)
  have HTM := Lib.hid (tame6 cc nn A1 A2 c1 c2 v1 HT1.out)
  clear HC HT N1 N2
  go_wp2_with fail
  (with_reducible refine HTM.out.mono ?_); rintro e v2 ⟨d, q, D, Q, dd, qq, rfl, hd6, hP, HD, hb2⟩
  have bl2 := Lib.hid (bl_step hb1 hb2)
  have hql := hP.2.1
  have HPR : Hid (∀ w', Below v2.heap.size v2 w' → Calls Try.prog 8 #[.agg #[.slice D d.length dd, .slice Q d.length qq]] w' fun e w'' => PricesPost w' d q e w'') := Lib.hid (fun w' hb => by
    have := pprices_any d q D Q dd qq w' (HD.below hb)
    rw [hql] at this
    exact this)
  have HBD : Hid (∀ (us vs : List Int) (U V : Option Addr) (n u v : Nat) (w' : World), Below v2.heap.size v2 w' → RdI w' w'.heap.size U us → RdI w' w'.heap.size V vs → us.length = n → vs.length = n → n ≤ 64 → (∀ z ∈ us, InI z) → (∀ z ∈ vs, InI z) → Calls Try.prog 14 #[.agg #[.slice D d.length dd, .slice Q d.length qq], .slice U n u, .slice V n v] w' fun e w'' => e = .returned (.tuple #[.int .i64 (bndV d q us vs).1, .bool (bndV d q us vs).2]) ∧ Below w'.heap.size w' w'') := Lib.hid (fun us vs U V n u v w' hb h1 h2 h3 h4 h5 h6 h7 => by
    have := bound_n d q us vs D Q U V dd qq u v n n w' ((HD.below hb).more hb.size (Nat.le_refl _)) h1 h2 h3 h4 (by omega) (by omega) h6 h7
    rw [hql] at this
    exact this.mono fun _ _ h => h.val)
  rw [hql]
  clear hql
  have hd40 : d.length ≤ 40 := by omega
  have hd70 : d.length ≤ 70 := by omega
  replace HD := Lib.hid HD
  replace hP := Lib.hid hP
  clear HTM HT1 hb1 hb2
  have nb0 : Below v2.heap.size v2 (v2.alloc (.cells #[.slice D d.length dd, .slice Q d.length qq] 28)) := bl_alloc (Below.refl _ _) _
  have Bt0 : Blk (v2.alloc (.cells #[.slice D d.length dd, .slice Q d.length qq] 28)) v2.heap.size 28 #[.slice D d.length dd, .slice Q d.length qq] := Blk.new _ _ _
  have CP := Lib.hid ((HPR.out _ nb0).mono fun _ _ h => prices_least h hP.out)
  go_wp2_with fail
  (with_reducible refine CP.out.mono ?_); rintro e v3 ⟨us, vs, U, V, n, u, v, ok, N, rfl, hu, hv, h64, hru, hrv, hiu, hiv, hbv, hg, hN, hb3⟩
  have bl3 := bl_step nb0 hb3
  have Bt3 := Bt0.below hb3
  have nb3 : Below v3.heap.size v3 (v3.alloc (.cells #[.bool ok] 4)) := bl_alloc (Below.refl _ _) _
  have Bo3 : Blk (v3.alloc (.cells #[.bool ok] 4)) v3.heap.size 4 #[.bool ok] := Blk.new _ _ _
  have CB : Hid (Calls Try.prog 14 #[.agg #[.slice D d.length dd, .slice Q d.length qq], .slice U n u, .slice V n v] (v3.alloc (.cells #[.bool ok] 4)) fun e w'' => e = .returned (.tuple #[.int .i64 N, .bool ok]) ∧ Below ((v3.alloc (.cells #[.bool ok] 4))).heap.size (v3.alloc (.cells #[.bool ok] 4)) w'') := Lib.hid (by
    have hs := Alike.of_below nb3 (Nat.le_refl _)
    have := HBD.out us vs U V n u v _ (bl_step bl3 nb3) ((hru.keep hs).more nb3.size) ((hrv.keep hs).more nb3.size) hu hv h64 hiu hiv
    rw [hbv] at this
    exact this)
  have HG := Lib.hid hg
  have HN := Lib.hid hN
  clear hu hv h64 hru hrv hiu hiv hbv hg hN CP nb0 Bt0
  have t_z : v2.heap.size < (v3.alloc (.cells #[.bool ok] 4)).heap.size := (Bt3.below nb3).lt
  have t_c0 : (v3.alloc (.cells #[.bool ok] 4)).cell? ⟨v2.heap.size, 0, none⟩ = some (.slice D d.length dd) := ((Bt3.below nb3).cell 0).trans rfl
  have t_f0 := (Bt3.below nb3).frozen 0
  have t_c1 : (v3.alloc (.cells #[.bool ok] 4)).cell? ⟨v2.heap.size, 1, none⟩ = some (.slice Q d.length qq) := ((Bt3.below nb3).cell 1).trans rfl
  have t_f1 := (Bt3.below nb3).frozen 1
  go_wp2_with fail
  (with_reducible refine CB.out.mono ?_); rintro e v4 ⟨rfl, hb4⟩
  have st4 := bl_step nb3 hb4
  have bl4 := bl_step bl3 st4
  have Bt4 := Bt3.below st4
  have Bo4 := Bo3.below hb4
  clear CB Bo3 Bt3 nb3 hb3 t_z t_c0 t_f0 t_c1 t_f1 bl3 st4 hb4
  have nb4 : Below v4.heap.size v4 (v4.alloc (.cells #[.int .i64 N] 2)) := bl_alloc (Below.refl _ _) _
  have Bn4 : Blk (v4.alloc (.cells #[.int .i64 N] 2)) v4.heap.size 2 #[.int .i64 N] := Blk.new _ _ _
  go_wp2_with fail
  (with_reducible refine (wakes_any _).mono ?_); rintro e v5 ⟨rfl, hb5⟩
  have st5 := bl_step nb4 hb5
  have bl5 := Lib.hid (bl_step bl4 st5)
  have Bt5 := Bt4.below st5
  have Bo5 := Bo4.below st5
  have Bn5 := Bn4.below hb5
  have lt2 : v2.heap.size < v5.heap.size := Bt5.lt
  have lt3 : v3.heap.size < v5.heap.size := Bo5.lt
  have lt4 : v4.heap.size < v5.heap.size := Bn5.lt
  clear nb4 Bn4 Bt4 Bo4 st5 hb5 bl4
  have o_z : v3.heap.size < v5.heap.size := Bo5.lt
  have o_c0 : v5.cell? ⟨v3.heap.size, 0, none⟩ = some (.bool ok) := (Bo5.cell 0).trans rfl
  have o_f0 := Bo5.frozen 0
  go_wp2_with fail
  clear o_z o_c0 o_f0
  go_loopw [15, 16, 64] (fun v15 v16 vi wr => ∃ (i : Nat) (us vs : List Int), vi = .int .i64 i ∧ i ≤ d.length ∧ Hid (TwoR v5 wr v15 v16 us vs) ∧ Hid (us.length = i ∧ vs.length = i ∧ (∀ z ∈ us, InI z) ∧ ∀ z ∈ vs, InI z)) (fun _ _ vi _ => d.length - (intOf vi).toNat)
  case atStart => exact ⟨0, [], [], rfl, Nat.zero_le _, Lib.hid (TwoR.start (Below.refl _ _)), Lib.hid ⟨rfl, rfl, fun z h => by simp at h, fun z h => by simp at h⟩⟩
  case round =>
    obtain ⟨i, us, vs, rfl, hi, HR, HL⟩ := hrel
    by_cases hlt : i < d.length
    · have i1 : (i : Int) < (d.length : Int) := by omega
      have i0 : (0 : Int) ≤ (i : Int) := by omega
      have hlu : us.length ≤ 100 := by have := HL.out.1; omega
      have hlv : vs.length ≤ 100 := by have := HL.out.2.1; omega
      by_cases hix : i < x.length
      · have i2 : (i : Int) < (x.length : Int) := by omega
        obtain ⟨p, hp⟩ : ∃ p, x[i]? = some p := ⟨_, List.getElem?_eq_getElem hix⟩
        obtain ⟨b, o, rfl, hb, hx1, hx2⟩ := HX.out.get hp
        obtain ⟨p1, p2⟩ := p
        obtain ⟨m1, hm1, r1, r2⟩ := tmod100 p1
        obtain ⟨m2, hm2, r3, r4⟩ := tmod100 p2
        have wm1 : IntKind.i64.wrap m1 = m1 := by rw [IntKind.wrap_i64]; omega
        have wm2 : IntKind.i64.wrap m2 = m2 := by rw [IntKind.wrap_i64]; omega
        have bW := bl_step (bl_step bl2.out bl5.out) HR.out.bl
        have hx1 := (bW.cell (p := ⟨b, o + i * 2, none⟩) hb).trans hx1
        have hx2 := (bW.cell (p := ⟨b, o + i * 2 + 1, none⟩) hb).trans hx2
        have HLN := Lib.hid (show (us ++ [m1]).length = i + 1 ∧ (vs ++ [m2]).length = i + 1 ∧ (∀ z ∈ us ++ [m1], InI z) ∧ ∀ z ∈ vs ++ [m2], InI z from ⟨by rw [List.length_append, HL.out.1]; rfl, by rw [List.length_append, HL.out.2.1]; rfl, snoc_in HL.out.2.2.1 r1 r2, snoc_in HL.out.2.2.2 r3 r4⟩)
        clear hp bW
        go_wp2_with fail
        go_quiet (skip)
        have HQ := HR.out.below (bl_drewN (Below.refl _ _) nq)
        clear hx1 hx2
        generalize wr.drewN nq = wq at HQ ⊢
        have nbp : Below wq.heap.size wq (wq.alloc (.cells #[.int .i64 m1] 2)) := bl_alloc (Below.refl _ _) _
        obtain ⟨D1, d1, X1, ra1, HA1, ga1⟩ := (HQ.below nbp).runR (Blk.new wq 2 #[.int .i64 m1]) hlu (ty := 29)
        have nbq : Below X1.heap.size X1 (X1.alloc (.cells #[.int .i64 m2] 2)) := bl_alloc (Below.refl _ _) _
        obtain ⟨D2, d2, X2, ra2, HA2, ga2⟩ := (HA1.below nbq).runC (Blk.new X1 2 #[.int .i64 m2]) hlv (ty := 29)
        have HF := Lib.hid HA2
        clear HA1 HA2 HQ nbp nbq
        go_wp2_with (first | (at_builtin; refine list_app rfl (.tmp 83) (.tmp 85) 29 29 rfl (by exact ra1) ?_) | (at_builtin; refine list_app rfl (.tmp 87) (.tmp 89) 29 29 rfl (by exact ra2) ?_))
        go_roundw
        case rel => exact ⟨i + 1, us ++ [m1], vs ++ [m2], by go_num, by omega, HF, HLN⟩
        case measure => simp only [intOf]; omega
      · have i2 : ¬ (i : Int) < (x.length : Int) := by omega
        have HLN := Lib.hid (show (us ++ [0]).length = i + 1 ∧ (vs ++ [0]).length = i + 1 ∧ (∀ z ∈ us ++ [0], InI z) ∧ ∀ z ∈ vs ++ [0], InI z from ⟨by rw [List.length_append, HL.out.1]; rfl, by rw [List.length_append, HL.out.2.1]; rfl, snoc_in HL.out.2.2.1 (by omega) (by omega), snoc_in HL.out.2.2.2 (by omega) (by omega)⟩)
        have HQ := HR.out
        generalize wr = wq at HQ ⊢
        have nbp : Below wq.heap.size wq (wq.alloc (.cells #[.int .i64 0] 2)) := bl_alloc (Below.refl _ _) _
        obtain ⟨D1, d1, X1, ra1, HA1, ga1⟩ := (HQ.below nbp).runR (Blk.new wq 2 #[.int .i64 0]) hlu (ty := 29)
        have nbq : Below X1.heap.size X1 (X1.alloc (.cells #[.int .i64 0] 2)) := bl_alloc (Below.refl _ _) _
        obtain ⟨D2, d2, X2, ra2, HA2, ga2⟩ := (HA1.below nbq).runC (Blk.new X1 2 #[.int .i64 0]) hlv (ty := 29)
        have HF := Lib.hid HA2
        clear HA1 HA2 HQ nbp nbq
        go_wp2_with (first | (at_builtin; refine list_app rfl (.tmp 83) (.tmp 85) 29 29 rfl (by exact ra1) ?_) | (at_builtin; refine list_app rfl (.tmp 87) (.tmp 89) 29 29 rfl (by exact ra2) ?_))
        go_roundw
        case rel => exact ⟨i + 1, us ++ [0], vs ++ [0], by go_num, by omega, HF, HLN⟩
        case measure => simp only [intOf]; omega
    · obtain rfl : i = d.length := by omega
      obtain ⟨hu, hv, hiu, hiv⟩ := HL.out
      obtain ⟨R, rc, rfl⟩ := HR.out.sliceR hu
      obtain ⟨C, cc3, rfl⟩ := HR.out.sliceC hv
      have st6 := HR.out.bl
      have Bt6 := Bt5.below st6
      have Bo6 := Bo5.below st6
      have Bn6 := Bn5.below st6
      have bl6 := bl_step bl5.out st6
      obtain ⟨M, may, hMM⟩ : ∃ M may, bndV d q us vs = (M, may) := ⟨_, _, rfl⟩
      have CB : Hid (Calls Try.prog 14 #[.agg #[.slice D d.length dd, .slice Q d.length qq], .slice R d.length rc, .slice C d.length cc3] wr fun e w'' => e = .returned (.tuple #[.int .i64 M, .bool may]) ∧ Below wr.heap.size wr w'') := Lib.hid (by
        have := HBD.out us vs R C d.length rc cc3 wr bl6 (HR.out.rdR hu) (HR.out.rdC hv) hu hv (by omega) hiu hiv
        rw [hMM] at this
        exact this)
      have HMB : Hid (may = true → BoundP d q us vs ∧ M = us.sum + vs.sum) := Lib.hid (fun hm => by
        by_cases hB : BoundP d q us vs
        · rw [bndV_t hB] at hMM
          simp only [Prod.mk.injEq] at hMM
          exact ⟨hB, hMM.1.symm⟩
        · rw [bndV_f hB] at hMM
          simp only [Prod.mk.injEq] at hMM
          rw [← hMM.2] at hm
          cases hm)
      have lw : v5.heap.size ≤ wr.heap.size := st6.size
      clear hu hv hiu hiv HL HR hMM Bt5 Bo5 Bn5 st6 hlt hi
      have t_z : v2.heap.size < wr.heap.size := Bt6.lt
      have t_c0 : wr.cell? ⟨v2.heap.size, 0, none⟩ = some (.slice D d.length dd) := (Bt6.cell 0).trans rfl
      have t_f0 := Bt6.frozen 0
      have t_c1 : wr.cell? ⟨v2.heap.size, 1, none⟩ = some (.slice Q d.length qq) := (Bt6.cell 1).trans rfl
      have t_f1 := Bt6.frozen 1
      go_wp2_with fail
      (with_reducible refine CB.out.mono ?_); rintro e v6 ⟨rfl, hb6⟩
      have lv : wr.heap.size ≤ v6.heap.size := hb6.size
      have st7 : Below v6.heap.size v6 ((v6.alloc (.cells #[.int .i64 M] 2)).alloc (.cells #[.bool may] 4)) := bl_alloc (bl_alloc (Below.refl _ _) _) _
      have LA : LeastAt ((v6.alloc (.cells #[.int .i64 M] 2)).alloc (.cells #[.bool may] 4)) v3.heap.size v4.heap.size (v6.heap.size + 1) v6.heap.size ok may N M := ⟨(Bo6.below hb6).below st7, (Bn6.below hb6).below st7, Blk.new' (by simp) _ _, (Blk.new _ _ _).alloc _⟩
      have TA := (HD.out.below bl6).below (hb6) |>.below st7
      have bl7 := bl_step (bl_step bl6 hb6) st7
      have hdone : Hid (∀ (used : List Bool) (s : Int), WayAt d q d.length used s → ok = true ∧ N ≤ s ∧ (may = false ∨ M ≤ s)) := Lib.hid (fun used s hw => by
        obtain ⟨h1, h2⟩ := hw.done hP.out
        have h3 := HG.out.2 h1
        obtain ⟨h4, h5⟩ := HN.out h3
        refine ⟨h3, by rw [h5]; exact h2 _ _ h4, ?_⟩
        cases hm : may
        · exact .inl rfl
        · obtain ⟨h6, h7⟩ := HMB.out hm
          exact .inr (by rw [h7]; exact h2 _ _ h6))
      clear CB t_z t_c0 t_f0 t_c1 t_f1 Bt6 Bo6 Bn6
      have sz7 : (((v6.alloc (.cells #[.int .i64 M] 2)).alloc (.cells #[.bool may] 4))).heap.size = v6.heap.size + 1 + 1 := by simp
      have CW : Hid (∀ w', Below (((v6.alloc (.cells #[.int .i64 M] 2)).alloc (.cells #[.bool may] 4))).heap.size ((v6.alloc (.cells #[.int .i64 M] 2)).alloc (.cells #[.bool may] 4)) w' → w'.ownsRow (v6.heap.size + 1 + 1) 4 1 (.slice (some ⟨v6.heap.size + 1 + 1, 0, none⟩) d.length d.length) d.length ((List.replicate d.length false).map Value.bool) → Calls Try.prog 16 #[.slice D d.length dd, .slice Q d.length qq, .int .i64 0, .slice (some ⟨v6.heap.size + 1 + 1, 0, none⟩) d.length d.length, .int .i64 0, .func (Fn.func 17) #[] #[.pointer (some ⟨v3.heap.size, 0, none⟩), .pointer (some ⟨v4.heap.size, 0, none⟩), .pointer (some ⟨v6.heap.size + 1, 0, none⟩), .pointer (some ⟨v6.heap.size, 0, none⟩)]] w' fun e w'' => e = .returned (.bool true) ∧ Below (((v6.alloc (.cells #[.int .i64 M] 2)).alloc (.cells #[.bool may] 4))).heap.size ((v6.alloc (.cells #[.int .i64 M] 2)).alloc (.cells #[.bool may] 4)) w'') := Lib.hid (fun w' hb ho => by
        rw [← sz7] at ho ⊢
        have := ways_any d q D Q dd qq (B := (((v6.alloc (.cells #[.int .i64 M] 2)).alloc (.cells #[.bool may] 4))).heap.size) v3.heap.size v4.heap.size (v6.heap.size + 1) v6.heap.size ok may N M (((v6.alloc (.cells #[.int .i64 M] 2)).alloc (.cells #[.bool may] 4))).heap.size hP.out hd40 hdone.out (Nat.le_refl _) ⟨by omega, by omega, by omega, by omega⟩ d.length 0 (List.replicate d.length false) 0 w' (by omega) WayAt.start ((TA.below hb).more (by have := TA.bd; omega) hb.size) (LA.below hb) ho
        exact this.mono fun e w'' h => ⟨h.1, hb.trans h.2.2.bl⟩)
      clear HD HG HN HMB hdone LA TA
      go_wp2_with (refine make_rowB rfl (.tmp 102) rfl rfl hd70 ?_; intro v7 hO hb7; rw [sz7] at hO; replace hO := Lib.hid hO)
      (with_reducible refine (CW.out _ hb7 hO.out).mono ?_); rintro e v8 ⟨rfl, hb8⟩
      go_wp2
      go_ret
      exact ⟨rfl, bl_step (bl_step bl2.out bl7) hb8⟩
end Go.Proofs.Ytamfhommmogknaa
