/- The walks of the reference's Digits, Text, Number, Parse. -/
import Derived.Test.YtkdklmkcanjjfaaDoorSigMath
import Derived.Laws.BytesString
import Derived.Laws.IdiomStrings
namespace Go.Proofs.YtkdklmkcanjjfaaDoor
open Go.RowKit
set_option linter.unusedVariables false
set_option linter.unusedSimpArgs false
set_option maxRecDepth 100000

theorem conv1 (W : World) (k : Int) : (convert 88 9 (.slice (some ⟨W.heap.size, 0, none⟩) 1 1)).run Tryd.prog (W.alloc (.cells #[.int .u8 k] 5)) = .ok (.string ⟨#[UInt8.ofNat k.toNat]⟩) (W.alloc (.cells #[.int .u8 k] 5)) := by
  rw [run_convert_bytes_string _ 88 9 5 _ 1 1 Tryd.underlying88 Tryd.underlying5 Tryd.underlying9]
  have hl := run_loadCells_list (P := Tryd.prog) (W.alloc (.cells #[.int .u8 k] 5)) ⟨W.heap.size, 0, none⟩ [.int .u8 k] (fun j v hj => by
    have hc := (Blk.new W 5 #[.int .u8 k]).cell j
    rw [show ((⟨W.heap.size, 0, none⟩ : Addr).add j) = ⟨W.heap.size, j, none⟩ by unfold Addr.add; split <;> simp_all, hc]
    simpa using hj)
  exact run_bytesToString _ _ 1 1 [k] hl
structure DigIn (n : Int) (u : Int) (s : List UInt8) : Prop where
  eq : Lib.decDigits n.natAbs = Lib.decDigits u.toNat ++ s
  len : s.length ≤ 21
theorem dig_step {n u : Int} {s : List UInt8} (h : DigIn n u s) (hl : (Lib.decDigits n.natAbs).length ≤ 21) (h0 : 9 < u) : DigIn n (u / 10) (UInt8.ofNat (48 + u % 10).toNat :: s) := by
  obtain ⟨h1, h2⟩ := h
  have e1 : (u / 10).toNat = u.toNat / 10 := by omega
  have e2 : (48 + u % 10).toNat = 48 + u.toNat % 10 := by omega
  have e : Lib.decDigits n.natAbs = Lib.decDigits (u / 10).toNat ++ (UInt8.ofNat (48 + u % 10).toNat :: s) := by
    rw [e1, e2, h1, dec_big (by omega)]; simp
  refine ⟨e, ?_⟩
  rw [e] at hl
  simp only [List.length_append, List.length_cons] at hl ⊢
  omega
theorem dig_last {n u : Int} {s : List UInt8} (h : DigIn n u s) (h0 : 0 ≤ u) (h1 : u ≤ 9) : Lib.decDigits n.natAbs = UInt8.ofNat (48 + u).toNat :: s := by
  rw [h.eq, dec_small (by omega), show (48 + u).toNat = 48 + u.toNat by omega]; rfl
theorem cons_bytes (b : UInt8) (s : List UInt8) : (⟨#[b]⟩ : ByteArray) ++ ⟨s.toArray⟩ = ⟨(b :: s).toArray⟩ := by apply ByteArray.ext; simp [ByteArray.data_append]
set_option maxHeartbeats 3200000 in
theorem digits_any (n : Int) (w : World) (hn : InI n) : Calls Tryd.prog 44 #[.int .i64 n] w fun e w' => e = .returned (.string ⟨(Lib.itoa n).toArray⟩) ∧ Below w.heap.size w w' := by
  have hl := Lib.itoa_length_le n hn.1 hn.2
  obtain ⟨n1, n2⟩ := hn
  have hcv := @conv1
  have hcb := @cons_bytes
  by_cases h0 : n < 0
  · have e0 : Lib.itoa n = 45 :: Lib.decDigits n.natAbs := by unfold Lib.itoa; rw [if_pos h0]
    rw [e0] at hl ⊢
    have HL : Hid ((Lib.decDigits n.natAbs).length ≤ 21) := Lib.hid (by simp at hl; omega)
    have HE : Hid (DigIn n (-(n + 1) + 1) []) := Lib.hid ⟨by rw [show (-(n + 1) + 1).toNat = n.natAbs by omega]; simp, by simp⟩
    clear e0 hl
    go_enter Tryd.func44, Tryd.ntmps44
    go_wp2_with fail
    go_loopw [3, 4] (fun vu vs wr => ∃ (u : Int) (s : List UInt8), vu = .int .u64 u ∧ vs = .string ⟨s.toArray⟩ ∧ 0 ≤ u ∧ u ≤ 9223372036854775808 ∧ Hid (DigIn n u s) ∧ Below w.heap.size w wr) (fun vu _ _ => (intOf vu).toNat)
    case atStart => exact ⟨_, [], rfl, rfl, by omega, by omega, HE, Below.refl _ _⟩
    case round =>
      clear HE
      obtain ⟨u, s, rfl, rfl, u1, u2, HD, be⟩ := hrel
      have hs := HD.out.len
      by_cases h9 : 9 < u
      · have HN := Lib.hid (dig_step HD.out HL.out h9)
        go_wp2_with fail
        go_roundw
        case rel =>
          exact ⟨u / 10, _, by go_num, rfl, by omega, by omega, HN, bl_step be (bl_alloc (Below.refl _ _) _)⟩
        case measure => simp only [intOf]; omega
      · have HN := Lib.hid (dig_last HD.out u1 (by omega))
        go_wp2
        go_ret
        exact ⟨by rw [HN.out]; rfl, bl_step be (bl_alloc (Below.refl _ _) _)⟩
  · have e0 : Lib.itoa n = Lib.decDigits n.natAbs := by unfold Lib.itoa; rw [if_neg h0, show n.toNat = n.natAbs by omega]
    rw [e0] at hl ⊢
    have HL : Hid ((Lib.decDigits n.natAbs).length ≤ 21) := Lib.hid (hl)
    have HE : Hid (DigIn n n []) := Lib.hid ⟨by rw [show n.toNat = n.natAbs by omega]; simp, by simp⟩
    have h0' : 0 ≤ n := by omega
    clear e0 hl h0
    go_enter Tryd.func44, Tryd.ntmps44
    go_wp2_with fail
    go_loopw [3, 4] (fun vu vs wr => ∃ (u : Int) (s : List UInt8), vu = .int .u64 u ∧ vs = .string ⟨s.toArray⟩ ∧ 0 ≤ u ∧ u ≤ 9223372036854775808 ∧ Hid (DigIn n u s) ∧ Below w.heap.size w wr) (fun vu _ _ => (intOf vu).toNat)
    case atStart => exact ⟨_, [], rfl, rfl, by omega, by omega, HE, Below.refl _ _⟩
    case round =>
      clear HE
      obtain ⟨u, s, rfl, rfl, u1, u2, HD, be⟩ := hrel
      have hs := HD.out.len
      by_cases h9 : 9 < u
      · have HN := Lib.hid (dig_step HD.out HL.out h9)
        go_wp2_with fail
        go_roundw
        case rel =>
          exact ⟨u / 10, _, by go_num, rfl, by omega, by omega, HN, bl_step be (bl_alloc (Below.refl _ _) _)⟩
        case measure => simp only [intOf]; omega
      · have HN := Lib.hid (dig_last HD.out u1 (by omega))
        go_wp2
        go_ret
        exact ⟨by rw [HN.out]; rfl, bl_step be (bl_alloc (Below.refl _ _) _)⟩
theorem btext_any (n d : Int) (w : World) (hn : InI n) (hd : InI d) :
    Calls Tryd.prog 18 #[.int .i64 n, .int .i64 d] w fun e w' => e = .returned (.string ⟨(textR n d).toArray⟩) ∧ Below w.heap.size w w' := by
  have H1 := Lib.hid (fun w => bgood_any n d w hn hd)
  have H2 := Lib.hid (fun w => digits_any n w hn)
  have H3 := Lib.hid (fun w => digits_any d w hd)
  have L1 := Lib.itoa_length_le n hn.1 hn.2
  have L2 := Lib.itoa_length_le d hd.1 hd.2
  have e3 := bytes_cat (Lib.itoa n) (Lib.itoa d)
  unfold textR
  generalize goodB n d = x at H1 ⊢
  generalize Lib.itoa n = s1 at *
  generalize Lib.itoa d = s2 at *
  have E3 := Lib.hid e3
  clear e3
  cases x
  · go_enter Tryd.func18, Tryd.ntmps18
    go_wp2_with fail
    (with_reducible refine (H1.out _).mono ?_); rintro e v1 ⟨rfl, hb1⟩
    have st1 := bl_step (Below.refl _ _) hb1
    have bl1 := st1
    go_wp2
    go_ret
    exact ⟨rfl, bl1⟩
  · by_cases h1 : d = 1
    · subst h1
      go_enter Tryd.func18, Tryd.ntmps18
      go_wp2_with fail
      (with_reducible refine (H1.out _).mono ?_); rintro e v1 ⟨rfl, hb1⟩
      have st1 := bl_step (Below.refl _ _) hb1
      have bl1 := st1
      go_wp2_with fail
      (with_reducible refine (H2.out _).mono ?_); rintro e v2 ⟨rfl, hb2⟩
      have st2 := bl_step (Below.refl _ _) hb2
      have bl2 := bl_step bl1 st2
      go_wp2_with fail
      (with_reducible refine (H3.out _).mono ?_); rintro e v3 ⟨rfl, hb3⟩
      have st3 := bl_step (Below.refl _ _) hb3
      have bl3 := bl_step bl2 st3
      go_wp2
      go_ret
      exact ⟨rfl, bl3⟩
    · have hd1 : (d == 1) = false := by simpa using h1
      rw [if_pos rfl, if_neg h1]
      clear h1
      go_enter Tryd.func18, Tryd.ntmps18
      go_wp2_with fail
      (with_reducible refine (H1.out _).mono ?_); rintro e v1 ⟨rfl, hb1⟩
      have st1 := bl_step (Below.refl _ _) hb1
      have bl1 := st1
      go_wp2_with fail
      (with_reducible refine (H2.out _).mono ?_); rintro e v2 ⟨rfl, hb2⟩
      have st2 := bl_step (Below.refl _ _) hb2
      have bl2 := bl_step bl1 st2
      go_wp2_with fail
      (with_reducible refine (H3.out _).mono ?_); rintro e v3 ⟨rfl, hb3⟩
      have st3 := bl_step (Below.refl _ _) hb3
      have bl3 := bl_step bl2 st3
      go_wp2
      go_ret
      exact ⟨by rw [E3.out]; rfl, bl3⟩
/-- How the reference's Number stands. -/
structure NumIn (neg : Bool) (l : List UInt8) (i : Nat) (n : Int) : Prop where
  eq : nfold neg ((l.take i).drop (if neg = true then 1 else 0)) = some n
theorem num_body {neg : Bool} {l : List UInt8} (hneg : negB l = neg) : bodyR l = l.drop (if neg = true then 1 else 0) := by
  unfold bodyR
  rw [hneg]
  cases neg
  · rfl
  · simp
theorem num_step {neg : Bool} {l : List UInt8} {i : Nat} {n : Int} (h : NumIn neg l i n) (hi : i < l.length) (h1 : neg = true → 1 ≤ i) :
    nfold neg ((l.take (i + 1)).drop (if neg = true then 1 else 0)) = nstep neg (some n) l[i] := by
  rw [List.take_succ_eq_append_getElem hi, List.drop_append_of_le_length, nfold_snoc, h.eq]
  rw [List.length_take]
  cases neg
  · simp
  · have := h1 rfl; simp; omega
theorem num_stop {neg : Bool} {l : List UInt8} {i : Nat} {n : Int} (hneg : negB l = neg) (h : NumIn neg l i n) (hi : i < l.length) (h1 : neg = true → 1 ≤ i) (hs : nstep neg (some n) l[i] = none) : numN l = 0 ∧ numB l = false := by
  have h2 := num_step h hi h1
  rw [hs] at h2
  have e : nfold (negB l) (bodyR l) = none := by
    rw [hneg, num_body hneg]
    have e1 : l = l.take (i + 1) ++ l.drop (i + 1) := (List.take_append_drop _ _).symm
    have e2 : l.drop (if neg = true then 1 else 0) = (l.take (i + 1)).drop (if neg = true then 1 else 0) ++ l.drop (i + 1) := by
      rw [← List.drop_append_of_le_length, ← e1]
      rw [List.length_take]
      split <;> omega
    rw [e2]
    unfold nfold at h2 ⊢
    rw [List.foldl_append, h2]
    exact nfold_none _ _
  unfold numN numB
  rw [e]
  exact ⟨rfl, rfl⟩
theorem num_end {neg : Bool} {l : List UInt8} {n : Int} (hneg : negB l = neg) (h : NumIn neg l l.length n) : numN l = n ∧ numB l = (Lib.itoa n == l) := by
  have e : nfold (negB l) (bodyR l) = some n := by
    rw [hneg, num_body hneg]
    have := h.eq
    rwa [List.take_length] at this
  unfold numN numB
  rw [e]
  exact ⟨rfl, rfl⟩
theorem ns_bad {neg : Bool} {n : Int} {c : UInt8} (h : (c.toNat : Int) < 48 ∨ 57 < (c.toNat : Int)) : nstep neg (some n) c = none := by
  unfold nstep
  rw [Option.bind_some, if_pos (by omega)]
theorem ns_neg_over {n : Int} {c : UInt8} (h1 : ¬ (c.toNat : Int) < 48) (h2 : ¬ 57 < (c.toNat : Int)) (h : n < (-9223372036854775808 + ((c.toNat : Int) - 48)).tdiv 10) : nstep true (some n) c = none := by
  unfold nstep
  rw [Option.bind_some, if_neg (by omega), if_pos rfl, if_pos h]
theorem ns_neg {n : Int} {c : UInt8} (h1 : ¬ (c.toNat : Int) < 48) (h2 : ¬ 57 < (c.toNat : Int)) (h : ¬ n < (-9223372036854775808 + ((c.toNat : Int) - 48)).tdiv 10) : nstep true (some n) c = some (10 * n - ((c.toNat : Int) - 48)) := by
  unfold nstep
  rw [Option.bind_some, if_neg (by omega), if_pos rfl, if_neg h]
theorem ns_pos_over {n : Int} {c : UInt8} (h1 : ¬ (c.toNat : Int) < 48) (h2 : ¬ 57 < (c.toNat : Int)) (h : (9223372036854775807 - ((c.toNat : Int) - 48)) / 10 < n) : nstep false (some n) c = none := by
  unfold nstep
  rw [Option.bind_some, if_neg (by omega), if_neg (by simp), if_pos (by rw [Int.tdiv_eq_ediv_of_nonneg (by omega)]; exact h)]
theorem ns_pos {n : Int} {c : UInt8} (h1 : ¬ (c.toNat : Int) < 48) (h2 : ¬ 57 < (c.toNat : Int)) (h : ¬ (9223372036854775807 - ((c.toNat : Int) - 48)) / 10 < n) : nstep false (some n) c = some (10 * n + ((c.toNat : Int) - 48)) := by
  unfold nstep
  rw [Option.bind_some, if_neg (by omega), if_neg (by simp), if_neg (by rw [Int.tdiv_eq_ediv_of_nonneg (by omega)]; exact h)]
theorem bytes_toList (s : ByteArray) : s.toList = s.data.toList := ByteArray.toList_eq s
set_option maxHeartbeats 6400000 in
theorem number_any (s : ByteArray) (w : World) (hs : s.size ≤ 9223372036854775807) :
    Calls Tryd.prog 48 #[.string s] w fun e w' => e = .returned (.tuple #[.int .i64 (numN s.data.toList), .bool (numB s.data.toList)]) ∧ Below w.heap.size w w' := by
  rcases Nat.eq_zero_or_pos s.size with h0 | h0
  · have hneg : Hid (negB s.data.toList = false) := Lib.hid (by
      have : s.data.toList = [] := List.eq_nil_of_length_eq_zero (by simpa using h0)
      rw [this]; rfl)
    have h00 : s.size ≤ 0 := by omega
    clear h0
    go_enter Tryd.func48, Tryd.ntmps48
    go_wp2_with fail
    go_loopw [5, 6] (fun vn vi wr => ∃ (n : Int) (i : Nat), vn = .int .i64 n ∧ vi = .int .i64 i ∧ i ≤ s.size ∧ Hid (NumIn false s.data.toList i n) ∧ Below w.heap.size w wr) (fun _ vi _ => s.size - (intOf vi).toNat)
    case atStart => exact ⟨0, 0, rfl, rfl, by omega, Lib.hid ⟨by simp [nfold]⟩, Below.refl _ _⟩
    case round =>
      obtain ⟨n, i, rfl, rfl, hi, HN, be⟩ := hrel
      by_cases hlt : i < s.size
      · omega
    
      · obtain rfl : i = s.size := by omega
        obtain ⟨e1, e2⟩ := num_end hneg.out (by have := HN.out; rwa [show s.size = s.data.toList.length from rfl] at this)
        have E1 := Lib.hid e1
        have E2 := Lib.hid e2
        have HD := Lib.hid (fun w => digits_any n w (nfold_ok HN.out.eq).1)
        clear e1 e2
        go_wp2_with fail
        (with_reducible refine (HD.out _).mono ?_); rintro e v1 ⟨rfl, hb1⟩
        go_wp2
        go_ret2
        exact ⟨by rw [E1.out, E2.out, ← bytes_toList]; rfl, bl_step be hb1⟩
  · have hh : Hid (s.data.toList.head? = some s[0]) := Lib.hid (by
      rw [List.head?_eq_getElem?, List.getElem?_eq_getElem (by simpa using h0)]; rfl)
    by_cases hm : (s[0].toNat : Int) = 45
    · have hneg : Hid (negB s.data.toList = true) := Lib.hid (by
        unfold negB
        rw [hh.out]
        have h45 : (45 : UInt8).toNat = 45 := rfl
        have : s[0] = 45 := UInt8.toNat_inj.1 (by rw [h45]; omega)
        rw [this]; rfl)
      have hm' : ((s[0].toNat : Int) == 45) = true := by simpa using hm
      clear hm
      go_enter Tryd.func48, Tryd.ntmps48
      go_wp2_with fail
      go_loopw [5, 6] (fun vn vi wr => ∃ (n : Int) (i : Nat), vn = .int .i64 n ∧ vi = .int .i64 i ∧ i ≤ s.size ∧ Hid (NumIn true s.data.toList i n) ∧ Below w.heap.size w wr) (fun _ vi _ => s.size - (intOf vi).toNat)
      case atStart => exact ⟨0, 0, rfl, rfl, by omega, Lib.hid ⟨by simp [nfold]⟩, Below.refl _ _⟩
      case round =>
        obtain ⟨n, i, rfl, rfl, hi, HN, be⟩ := hrel
        by_cases hlt : i < s.size
        · by_cases hi0 : i = 0
          · subst hi0
            go_wp2_with fail
            go_roundw
            case rel => exact ⟨n, 1, rfl, rfl, by omega, Lib.hid ⟨by have := HN.out.eq; simpa using this⟩, be⟩
            case measure => simp only [intOf]; omega
          · have hi1 : ((i : Int) == 0) = false := by simpa using hi0
            have hi2 : 1 ≤ i := by omega
            clear hi0
            have hl : i < s.data.toList.length := by simpa using hlt
            have hg : s.data.toList[i] = s[i] := rfl
            by_cases hc1 : (s[i].toNat : Int) < 48
            · have HS := Lib.hid (num_stop hneg.out HN.out hl (fun _ => hi2) (by rw [hg]; exact ns_bad (by omega)))
              go_wp2
              go_ret2
              exact ⟨by rw [HS.out.1, HS.out.2]; rfl, be⟩
            · by_cases hc2 : 57 < (s[i].toNat : Int)
              · have HS := Lib.hid (num_stop hneg.out HN.out hl (fun _ => hi2) (by rw [hg]; exact ns_bad (by omega)))
                go_wp2
                go_ret2
                exact ⟨by rw [HS.out.1, HS.out.2]; rfl, be⟩
              · have hn := nfold_ok HN.out.eq
                by_cases ho : n < (-9223372036854775808 + ((s[i].toNat : Int) - 48)).tdiv 10
                · have HS := Lib.hid (num_stop hneg.out HN.out hl (fun _ => hi2) (by rw [hg]; exact ns_neg_over hc1 hc2 ho))
                  obtain ⟨⟨n1, n2⟩, n3, n4⟩ := hn
                  clear n3 n4
                  go_wp2
                  go_ret2
                  exact ⟨by rw [HS.out.1, HS.out.2]; rfl, be⟩
                · have HS := num_step HN.out hl (fun _ => hi2)
                  rw [hg, ns_neg hc1 hc2 ho] at HS
                  have hr := nfold_ok HS
                  obtain ⟨⟨n1, n2⟩, n3, n4⟩ := hn
                  obtain ⟨⟨r1, r2⟩, r3, r4⟩ := hr
                  have n0 := n3 rfl
                  have HS := Lib.hid HS
                  clear n3 n4 r3 r4
                  have ho' : (-9223372036854775808 + ((s[i].toNat : Int) - 48)).tdiv 10 ≤ n := by omega
                  clear ho
                  go_wp2_with fail
                  go_roundw
                  case rel => exact ⟨_, i + 1, rfl, by go_num, by omega, Lib.hid ⟨HS.out⟩, be⟩
                  case measure => simp only [intOf]; omega
        · obtain rfl : i = s.size := by omega
          obtain ⟨e1, e2⟩ := num_end hneg.out (by have := HN.out; rwa [show s.size = s.data.toList.length from rfl] at this)
          have E1 := Lib.hid e1
          have E2 := Lib.hid e2
          have HD := Lib.hid (fun w => digits_any n w (nfold_ok HN.out.eq).1)
          clear e1 e2
          go_wp2_with fail
          (with_reducible refine (HD.out _).mono ?_); rintro e v1 ⟨rfl, hb1⟩
          go_wp2
          go_ret2
          exact ⟨by rw [E1.out, E2.out, ← bytes_toList]; rfl, bl_step be hb1⟩
    · have hneg : Hid (negB s.data.toList = false) := Lib.hid (by
        unfold negB
        rw [hh.out, beq_eq_false_iff_ne]
        intro h
        injection h with h
        rw [h] at hm
        exact hm rfl)
      have hm' : ((s[0].toNat : Int) == 45) = false := by simpa using hm
      clear hm
      go_enter Tryd.func48, Tryd.ntmps48
      go_wp2_with fail
      go_loopw [5, 6] (fun vn vi wr => ∃ (n : Int) (i : Nat), vn = .int .i64 n ∧ vi = .int .i64 i ∧ i ≤ s.size ∧ Hid (NumIn false s.data.toList i n) ∧ Below w.heap.size w wr) (fun _ vi _ => s.size - (intOf vi).toNat)
      case atStart => exact ⟨0, 0, rfl, rfl, by omega, Lib.hid ⟨by simp [nfold]⟩, Below.refl _ _⟩
      case round =>
        obtain ⟨n, i, rfl, rfl, hi, HN, be⟩ := hrel
        by_cases hlt : i < s.size
        · by_cases hi0 : i = 0
          · have hi1 : ((i : Int) == 0) = true := by simp [hi0]
            have hi2 : 0 ≤ i := by omega
            clear hi0
            have hl : i < s.data.toList.length := by simpa using hlt
            have hg : s.data.toList[i] = s[i] := rfl
            by_cases hc1 : (s[i].toNat : Int) < 48
            · have HS := Lib.hid (num_stop hneg.out HN.out hl (fun h => by cases h) (by rw [hg]; exact ns_bad (by omega)))
              go_wp2
              go_ret2
              exact ⟨by rw [HS.out.1, HS.out.2]; rfl, be⟩
            · by_cases hc2 : 57 < (s[i].toNat : Int)
              · have HS := Lib.hid (num_stop hneg.out HN.out hl (fun h => by cases h) (by rw [hg]; exact ns_bad (by omega)))
                go_wp2
                go_ret2
                exact ⟨by rw [HS.out.1, HS.out.2]; rfl, be⟩
              · have hn := nfold_ok HN.out.eq
                by_cases ho : (9223372036854775807 - ((s[i].toNat : Int) - 48)) / 10 < n
                · have HS := Lib.hid (num_stop hneg.out HN.out hl (fun h => by cases h) (by rw [hg]; exact ns_pos_over hc1 hc2 ho))
                  obtain ⟨⟨n1, n2⟩, n3, n4⟩ := hn
                  clear n3 n4
                  go_wp2
                  go_ret2
                  exact ⟨by rw [HS.out.1, HS.out.2]; rfl, be⟩
                · have HS := num_step HN.out hl (fun h => by cases h)
                  rw [hg, ns_pos hc1 hc2 ho] at HS
                  have hr := nfold_ok HS
                  obtain ⟨⟨n1, n2⟩, n3, n4⟩ := hn
                  obtain ⟨⟨r1, r2⟩, r3, r4⟩ := hr
                  have n0 := n4 rfl
                  have HS := Lib.hid HS
                  clear n3 n4 r3 r4
                  have ho' : n ≤ (9223372036854775807 - ((s[i].toNat : Int) - 48)) / 10 := by omega
                  clear ho
                  go_wp2_with fail
                  go_roundw
                  case rel => exact ⟨_, i + 1, rfl, by go_num, by omega, Lib.hid ⟨HS.out⟩, be⟩
                  case measure => simp only [intOf]; omega
          · have hi1 : ((i : Int) == 0) = false := by simpa using hi0
            have hi2 : 1 ≤ i := by omega
            clear hi0
            have hl : i < s.data.toList.length := by simpa using hlt
            have hg : s.data.toList[i] = s[i] := rfl
            by_cases hc1 : (s[i].toNat : Int) < 48
            · have HS := Lib.hid (num_stop hneg.out HN.out hl (fun h => by cases h) (by rw [hg]; exact ns_bad (by omega)))
              go_wp2
              go_ret2
              exact ⟨by rw [HS.out.1, HS.out.2]; rfl, be⟩
            · by_cases hc2 : 57 < (s[i].toNat : Int)
              · have HS := Lib.hid (num_stop hneg.out HN.out hl (fun h => by cases h) (by rw [hg]; exact ns_bad (by omega)))
                go_wp2
                go_ret2
                exact ⟨by rw [HS.out.1, HS.out.2]; rfl, be⟩
              · have hn := nfold_ok HN.out.eq
                by_cases ho : (9223372036854775807 - ((s[i].toNat : Int) - 48)) / 10 < n
                · have HS := Lib.hid (num_stop hneg.out HN.out hl (fun h => by cases h) (by rw [hg]; exact ns_pos_over hc1 hc2 ho))
                  obtain ⟨⟨n1, n2⟩, n3, n4⟩ := hn
                  clear n3 n4
                  go_wp2
                  go_ret2
                  exact ⟨by rw [HS.out.1, HS.out.2]; rfl, be⟩
                · have HS := num_step HN.out hl (fun h => by cases h)
                  rw [hg, ns_pos hc1 hc2 ho] at HS
                  have hr := nfold_ok HS
                  obtain ⟨⟨n1, n2⟩, n3, n4⟩ := hn
                  obtain ⟨⟨r1, r2⟩, r3, r4⟩ := hr
                  have n0 := n4 rfl
                  have HS := Lib.hid HS
                  clear n3 n4 r3 r4
                  have ho' : n ≤ (9223372036854775807 - ((s[i].toNat : Int) - 48)) / 10 := by omega
                  clear ho
                  go_wp2_with fail
                  go_roundw
                  case rel => exact ⟨_, i + 1, rfl, by go_num, by omega, Lib.hid ⟨HS.out⟩, be⟩
                  case measure => simp only [intOf]; omega
        · obtain rfl : i = s.size := by omega
          obtain ⟨e1, e2⟩ := num_end hneg.out (by have := HN.out; rwa [show s.size = s.data.toList.length from rfl] at this)
          have E1 := Lib.hid e1
          have E2 := Lib.hid e2
          have HD := Lib.hid (fun w => digits_any n w (nfold_ok HN.out.eq).1)
          clear e1 e2
          go_wp2_with fail
          (with_reducible refine (HD.out _).mono ?_); rintro e v1 ⟨rfl, hb1⟩
          go_wp2
          go_ret2
          exact ⟨by rw [E1.out, E2.out, ← bytes_toList]; rfl, bl_step be hb1⟩
end Go.Proofs.YtkdklmkcanjjfaaDoor
