/- strings.ToValidUTF8: what it hands back holds code points alone. -/
import Derived.Test.YtidpenifabojnaaDoorLU
import Derived.Test.YtidpenifabojnaaDoorLG
namespace Go.Proofs.YtidpenifabojnaaDoor
open Go Go.RowKit
set_option linter.unusedVariables false
set_option linter.unusedSimpArgs false
set_option maxRecDepth 100000

theorem cont_one {l : List UInt8} {a b k : Nat} (h : contL l a b = true) (hk : 0 < k) : contL (l.take k) a b = true := by
  cases l with
  | nil => simp [contL] at h
  | cons c r =>
    cases k with
    | zero => omega
    | succ k => exact h
theorem cont_two {l : List UInt8} {a b k j : Nat} (h : contL (l.drop j) a b = true) (hk : j < k) : contL ((l.take k).drop j) a b = true := by
  rw [List.drop_take]
  exact cont_one h (by omega)
/-- The bytes of a code point spell it alone. -/
theorem point_self {c : UInt8} {r : List UInt8} (h : ¬ pointL (c :: r) = 0) : pointL ((c :: r).take (pointL (c :: r))) = pointL (c :: r) ∧ ValN ((c :: r).take (pointL (c :: r))) 1 ∨ c.toNat = 10 := by
  by_cases h10 : c.toNat = 10
  · exact .inr h10
  refine .inl ?_
  have hne : ¬ pointL ((c :: r).take (pointL (c :: r))) = 0 := by
    change ¬ pointC c r = 0 at h
    change ¬ pointL ((c :: r).take (pointC c r)) = 0
    unfold pointC at h ⊢
    by_cases h0 : c.toNat < 128
    · rw [if_pos h0]
      show ¬ pointC c [] = 0
      unfold pointC
      rw [if_pos h0]; decide
    · rw [if_neg h0]
      rw [if_neg h0] at h
      by_cases h1 : 194 ≤ c.toNat ∧ c.toNat ≤ 223
      · rw [if_pos h1]
        rw [if_pos h1] at h
        by_cases q : contL r 128 191 = true
        · rw [if_pos q]
          show ¬ pointC c (r.take 1) = 0
          unfold pointC
          rw [if_neg h0, if_pos h1, if_pos (cont_one q (by omega))]; decide
        · rw [if_neg q] at h; exact absurd rfl h
      · rw [if_neg h1]
        rw [if_neg h1] at h
        by_cases h2 : 224 ≤ c.toNat ∧ c.toNat ≤ 239
        · rw [if_pos h2]
          rw [if_pos h2] at h
          by_cases q : contL r (if c.toNat = 224 then 160 else 128) (if c.toNat = 237 then 159 else 191) = true ∧ contL (r.drop 1) 128 191 = true
          · rw [if_pos q]
            show ¬ pointC c (r.take 2) = 0
            unfold pointC
            rw [if_neg h0, if_neg h1, if_pos h2, if_pos ⟨cont_one q.1 (by omega), cont_two q.2 (by omega)⟩]; decide
          · rw [if_neg q] at h; exact absurd rfl h
        · rw [if_neg h2]
          rw [if_neg h2] at h
          by_cases h3 : 240 ≤ c.toNat ∧ c.toNat ≤ 244
          · rw [if_pos h3]
            rw [if_pos h3] at h
            by_cases q : contL r (if c.toNat = 240 then 144 else 128) (if c.toNat = 244 then 143 else 191) = true ∧ contL (r.drop 1) 128 191 = true ∧ contL (r.drop 2) 128 191 = true
            · rw [if_pos q]
              show ¬ pointC c (r.take 3) = 0
              unfold pointC
              rw [if_neg h0, if_neg h1, if_neg h2, if_pos h3, if_pos ⟨cont_one q.1 (by omega), cont_two q.2.1 (by omega), cont_two q.2.2 (by omega)⟩]; decide
            · rw [if_neg q] at h; exact absurd rfl h
          · rw [if_neg h3] at h; exact absurd rfl h
  obtain ⟨k, hk, hkl, _⟩ := point_take h
  rw [hk, List.take_succ_cons] at hne ⊢
  have ha := point_app (x := r.drop k) hne
  rw [List.cons_append, List.take_append_drop, hk] at ha
  refine ⟨ha.symm, ?_⟩
  refine .cons hne h10 ?_
  rw [← ha, List.drop_succ_cons, List.drop_eq_nil_of_le (by rw [List.length_take]; omega)]
  exact .nil
/-- No line's end stands in the text. -/
def NoFeed (s : ByteArray) : Prop := ∀ d ∈ s.data.toList, ¬ d.toNat = 10
theorem val_next {s : ByteArray} (hn : NoFeed s) {i : Nat} (hi : i < s.size) (hp : ¬ pointL (s.data.toList.drop i) = 0) : ValN ((s.data.toList.drop i).take (pointL (s.data.toList.drop i))) 1 := by
  rw [get_drop s i hi] at hp ⊢
  rcases point_self hp with h | h
  · exact h.2
  · exact absurd h (hn _ (by have := get_drop s i hi; exact List.mem_of_mem_drop (this ▸ List.mem_cons_self)))
theorem take_add (l : List UInt8) (i k : Nat) : l.take (i + k) = l.take i ++ (l.drop i).take k := by rw [List.take_add]
theorem ext_point (s : ByteArray) (i : Nat) (hi : i < s.size) : ((s.extract i s.size).data.toList.drop 0) = s.data.toList.drop i := by rw [List.drop_zero, extract_list]
theorem ext_size (s : ByteArray) (i : Nat) : (s.extract i s.size).size = s.size - i := by rw [ByteArray.size_extract]; omega
/-- The rune that begins at a place, read out of the rest of the text. -/
theorem ext_dec (s : ByteArray) (i : Nat) (hi : i < s.size) : (pointL (s.data.toList.drop i) = 0 ∧ Lib.decodeGo (s.extract i s.size) = (65533, 1)) ∨ (∃ c, ¬ pointL (s.data.toList.drop i) = 0 ∧ Lib.decodeGo (s.extract i s.size) = (c, pointL (s.data.toList.drop i))) := by
  have h0 : ¬ (s.extract i s.size).size = 0 := by rw [ext_size]; omega
  have hd : Lib.decodeGo (s.extract i s.size) = Utf8.decode (s.extract i s.size) 0 := by unfold Lib.decodeGo; rw [if_neg h0]
  rw [hd]
  have := decode_point (s.extract i s.size) 0 (by omega)
  rw [ext_point s i hi] at this
  rcases this with ⟨a, b, _⟩ | ⟨c, a, b, _⟩
  · exact .inl ⟨a, b⟩
  · exact .inr ⟨c, a, b⟩
/-- What the walk asks of a world: Go's two tables of runes. -/
def U8W (w : World) : Prop := Lib.Utf8Tabs 1 2 w
theorem U8W.below {w w' : World} (h : U8W w) (hb : Below w.heap.size w w') : U8W w' := Utf8Tabs_below h hb
theorem dec_c (s : ByteArray) (w : World) (h : U8W w) : Calls Tryd.prog 23 #[.string s] w fun e w' => e = .returned (.tuple #[.int .i32 (Lib.decodeGo s).1, .int .i64 (Lib.decodeGo s).2]) ∧ Below w.heap.size w w' := Tryd.utf8_DecodeRuneInString s w h
theorem cap_c (b : Nat) (v : Value) (n : Nat) (w : World) (c1 : w.cell? ⟨b, 1, none⟩ = some v) (hv : ∃ p m, v = .slice p m n) (z : b < w.heap.size) : Calls Tryd.prog 26 #[.pointer (some ⟨b, 0, none⟩)] w fun e w' => e = .returned (.int .i64 n) ∧ w' = w := by
  obtain ⟨p, m, rfl⟩ := hv
  go_enter Tryd.func26, Tryd.ntmps26
  go_wp2
  go_ret
  exact ⟨rfl, rfl⟩
theorem grow_c (b n : Nat) (w : World) (hbk : Blk w b 62 #[.pointer none, .slice none 0 0]) (hn : n ≤ 281474976710656) :
    Calls Tryd.prog 24 #[.pointer (some ⟨b, 0, none⟩), .int .i64 n] w fun e w' => e = .returned (.tuple #[]) ∧ Bld b b [] n w' ∧ Below b w w' :=
  (Tryd.Builder_Grow_fresh_cap b b n w (Nat.le_refl _) hbk.out (Nat.le_of_lt hbk.lt) hn).mono fun e w' ⟨he, ⟨h1, h2⟩, p, cap, h3, h4⟩ => ⟨he, ⟨Lib.BuilderAtF.of h1, _, h3, h4⟩, h2⟩
theorem str_c (b : Nat) (out : List UInt8) (cap : Nat) (w : World) (h : Bld b b out cap w) (hb : b ≤ w.heap.size) : Calls Tryd.prog 28 #[.pointer (some ⟨b, 0, none⟩)] w fun e w' => e = .returned (.string ⟨out.toArray⟩) ∧ Below b w w' :=
  (Tryd.Builder_String_any_f b b out w (.inr h.at_) hb).mono fun e w' ⟨h1, _, h2⟩ => ⟨h1, h2⟩
theorem Bld.lt {b : Nat} {out : List UInt8} {cap : Nat} {w : World} (h : Bld b b out cap w) : b < w.heap.size := by
  obtain ⟨_, v, hbk, _⟩ := h.at_
  exact (Array.getElem?_eq_some_iff.1 hbk).1
theorem Bld.slice {b : Nat} {out : List UInt8} {cap : Nat} {w : World} (h : Bld b b out cap w) (hc : 0 < cap) : ∃ p m n, w.cell? ⟨b, 1, none⟩ = some (.slice p m n) ∧ 0 < n := by
  obtain ⟨v, h1, h2⟩ := h.cap_
  cases v <;> simp only [Value.capOf] at h2 <;> try omega
  exact ⟨_, _, _, h1, by omega⟩
theorem bld_below {b : Nat} {out : List UInt8} {cap : Nat} {w w' : World} (h : Bld b b out cap w) (hb : Below w.heap.size w w') : Bld b b out cap w' := by
  obtain ⟨⟨hB, v, hbk, hown, hne⟩, v0, hv0, hcap⟩ := h
  have hlt : b < w.heap.size := (Array.getElem?_eq_some_iff.1 hbk).1
  exact ⟨⟨hB, v, (hb.block b hlt).trans hbk, hown.kept (row := none) ⟨hb.os, hb.tape, hb.output, hb.size, fun i hi _ => hb.block i hi⟩ (by cases v.ownBlock <;> simp), hne⟩, v0, (hb.cell (p := ⟨b, 1, none⟩) hlt).trans hv0, hcap⟩
set_option maxHeartbeats 12800000 in
theorem valid_any (z : ByteArray) (hz : z.size ≤ 100000) (hn : NoFeed z) (w : World) (hT : U8W w) :
    Calls Tryd.prog 12 #[.string z, .string ⟨#[63]⟩] w fun e w' => ∃ out n, e = .returned (.string ⟨out.toArray⟩) ∧ ValN out n ∧ out.length ≤ z.size ∧ Below w.heap.size w w' := by
  have HT := Lib.hid (fun w' (hb : Below w.heap.size w w') => hT.below hb)
  have HN := Lib.hid hn
  clear hT hn
  go_enter Tryd.func12, Tryd.ntmps12
  go_wp2_with fail
  go_loopg [0] z.size (fun gf v0 wx => ∃ (i n : Nat), v0 = .string z ∧ Hid (wx.heap[w.heap.size + 1]? = some (.stringIter z i)) ∧ Hid (Blk wx w.heap.size 62 #[.pointer none, .slice none 0 0]) ∧ Hid (Below w.heap.size w wx) ∧ Hid (ValN (z.data.toList.take i) n) ∧ i ≤ z.size ∧ z.size ≤ i + gf)
  case atStart =>
    refine ⟨0, 0, rfl, ?_, Lib.hid ((Blk.new _ _ _).alloc _), Lib.hid (bl_alloc (bl_alloc (Below.refl _ _) _) _), Lib.hid .nil, by omega, by omega⟩
    have := World.iter_heap (w.alloc (.cells #[.pointer none, .slice none 0 0] 62)) z 0
    rw [show (w.alloc (.cells #[.pointer none, .slice none 0 0] 62)).heap.size = w.heap.size + 1 by simp only [World.alloc, Array.size_push]] at this
    exact Lib.hid this
  case round =>
    obtain ⟨i, n, rfl, HI, HB, HW, HV, hle, hfu⟩ := hrel
    by_cases hps : i < z.size
    · obtain ⟨g', rfl⟩ : ∃ g', gk = g' + 1 := ⟨gk - 1, by omega⟩
      obtain ⟨r, K, hd⟩ : ∃ r K, Utf8.decode z i = (r, K) := ⟨_, _, rfl⟩
      have hK1 : 1 ≤ K := by have := Lib.width_pos z i; rw [hd] at this; exact this
      have hnx : ∀ ty, (Instr.next (.pointer (some ⟨w.heap.size + 1, 0, none⟩)) true ty).run Tryd.prog wr = _ := fun ty => Lib.run_next_any_at wr (w.heap.size + 1) z i ty HI.out hps
      simp only [hd] at hnx
      have I1 := Lib.hid (Lib.iterAt_heap wr (w.heap.size + 1) z i (i + K) HI.out)
      have B1 := Lib.hid (HB.out.iterAt HI.out (i + K))
      have W1 := Lib.hid (Lib.below_iterAt HW.out (k := w.heap.size + 1) (by omega) z (i + K))
      clear HI HB HW
      generalize wr.iterAt (w.heap.size + 1) z (i + K) = W at hnx I1 B1 W1
      have hdp := decode_point z i hps
      rw [hd] at hdp
      have hex := ext_dec z i hps
      have i0 : (0 : Int) ≤ i := by omega
      have i1 : (i : Int) ≤ z.size := by omega
      have next : ¬ pointL (z.data.toList.drop i) = 0 → (r, K).2 = pointL (z.data.toList.drop i) → Hid (ValN (z.data.toList.take (i + K)) (n + 1)) ∧ i + K ≤ z.size := fun hp hk => by
        simp only at hk
        refine ⟨Lib.hid ?_, ?_⟩
        · rw [take_add, hk]
          exact val_app HV.out (val_next HN.out hps hp)
        · rw [get_drop z i hps] at hp hk
          obtain ⟨q, hq, hql, _⟩ := point_take hp
          have : (z.data.toList.drop (i + 1)).length = z.size - (i + 1) := by rw [List.length_drop, ← Lib.size_eq]
          omega
      by_cases hr : r = 65533
      · subst hr
        have HD := Lib.hid (fun w' (hb : Below w.heap.size w w') => dec_c (z.extract i z.size) w' (HT.out w' hb))
        rcases hex with ⟨hp, he⟩ | ⟨c, hp, he⟩
        · rw [he] at HD
          clear hdp next he hp hd
          simp only at HD
          go_wp2_with fail
          refine (HD.out _ W1.out).mono ?_; rintro e w2 ⟨rfl, hb2⟩
          have B2 := B1.out.below hb2
          have bl2 := bl_step W1.out hb2
          have wz : IntKind.i64.wrap ((z.size : Int) + 1) = ((z.size + 1 : Nat) : Int) := by rw [IntKind.wrap_i64]; omega
          have HG := Lib.hid (grow_c w.heap.size (z.size + 1) w2 B2 (by omega))
          clear HD I1 B1 W1 hb2 B2
          go_wp2_with fail
          refine HG.out.mono ?_; rintro e w3 ⟨rfl, hB3, hb3⟩
          have bl3 := bl2.trans hb3
          have HS := Lib.hid (ws_any w.heap.size w.heap.size [] (z.size + 1) (z.extract 0 i) w3 hB3 (by rw [ByteArray.size_extract]; simp; omega) (Nat.le_of_lt hB3.lt))
          clear HG hb3 hB3
          go_wp2_with fail
          refine HS.out.mono ?_; rintro e w4 ⟨rfl, hB4, hb4⟩
          have bl4 := bl3.trans hb4
          have e4 : (z.extract 0 i).data.toList = z.data.toList.take i := by rw [Lib.extract_data]; simp
          rw [e4, List.nil_append] at hB4
          obtain ⟨p, m, cp, hc4, hcp⟩ := hB4.slice (by omega)
          have HC := Lib.hid (cap_c w.heap.size _ cp w4 hc4 ⟨_, _, rfl⟩ hB4.lt)
          have hcp' : ((cp : Int) == 0) = false := by simp; omega
          clear HS hb4 hc4
          go_wp2_with fail
          refine HC.out.mono ?_; rintro e w5 ⟨rfl, hv⟩
          obtain rfl := hv.symm
          clear hv HC
          have hys := Lib.hid (ext_size z i)
          have hyb : (z.extract i z.size).size ≤ 100000 := by rw [ext_size]; omega
          have hyn : NoFeed (z.extract i z.size) := fun d hd => HN.out d (by rw [extract_list] at hd; exact List.mem_of_mem_drop hd)
          have HY := Lib.hid hyn
          generalize z.extract i z.size = y at hys hyb HY ⊢
          clear hyn
          have H4 := Lib.hid hB4
          have L4 := Lib.hid bl4
          have HV2 := Lib.hid (show ∃ k, ValN (z.data.toList.take i) k from ⟨n, HV.out⟩)
          have hl4 : (z.data.toList.take i).length ≤ i := by rw [List.length_take]; omega
          generalize z.data.toList.take i = o0 at H4 HV2 hl4
          clear hB4 bl4 bl3 bl2 HV hcp
          go_wp2_with fail
          go_loopw [10, 11] (fun vb vi wx => ∃ (j : Nat) (inv : Bool) (out : List UInt8), vi = .int .i64 j ∧ Hid (vb = .bool inv) ∧ j ≤ y.size ∧ out.length ≤ i + j ∧ Hid (Bld w.heap.size w.heap.size out 0 wx) ∧ Hid (Below w.heap.size w wx) ∧ Hid (∃ k, ValN out k)) (fun _ vi _ => y.size - (intOf vi).toNat)
          case atStart => exact ⟨0, false, o0, rfl, Lib.hid rfl, by omega, by omega, Lib.hid H4.out.weak, L4, HV2⟩
          case round =>
            clear H4 L4 HV2 hl4
            obtain ⟨j, inv, out, rfl, hvb, hj, hol, H4, L4, HV2⟩ := hrel
            obtain rfl := hvb.out
            clear hvb
            by_cases hjl : j < y.size
            · have j0 : (0 : Int) ≤ j := by omega
              have j1 : (j : Int) < y.size := by omega
              have j2 : (j : Int) ≤ y.size := by omega
              have wj : IntKind.i64.wrap ((j : Int) + 1) = j + 1 := by rw [IntKind.wrap_i64]; omega
              have hgd := get_drop y j hjl
              have hne10 : ¬ y[j].toNat = 10 := HY.out _ (List.mem_of_mem_drop (hgd ▸ List.mem_cons_self))
              by_cases hc : y[j].toNat < 128
              · have hc' : (y[j].toNat : Int) < 128 := by omega
                have HWB := Lib.hid (wb_any w.heap.size w.heap.size out y[j] wr H4.out (by omega) (Nat.le_of_lt H4.out.lt))
                have V3 : Hid (∃ k, ValN (out ++ [y[j]]) k) := Lib.hid (by
                  obtain ⟨k, hk⟩ := HV2.out
                  exact ⟨k + 1, val_app hk (.cons (by rw [point_ascii hc]; decide) hne10 (by rw [point_ascii hc]; exact .nil))⟩)
                clear hgd hne10 hc
                go_wp2_with fail
                refine HWB.out.mono ?_; rintro e w6 ⟨rfl, hB6, hb6⟩
                have H6 := Lib.hid hB6
                have L6 := Lib.hid (L4.out.trans hb6)
                clear HWB hB6 hb6
                go_wp2_with fail
                go_roundw
                case rel => exact ⟨j + 1, false, out ++ [y[j]], by go_num, Lib.hid rfl, by omega, by simp; omega, H6, L6, V3⟩
                case measure => simp only [intOf]; omega
              · have hc' : ¬ (y[j].toNat : Int) < 128 := by omega
                have HD := Lib.hid (dec_c (y.extract j y.size) wr (HT.out _ L4.out))
                rcases ext_dec y j hjl with ⟨hp, he⟩ | ⟨c, hp, he⟩
                · rw [he] at HD
                  simp only at HD
                  clear hgd hne10 hc he hp
                  cases inv
                  · go_wp2_with fail
                    refine HD.out.mono ?_; rintro e w6 ⟨rfl, hb6⟩
                    have H6 := bld_below H4.out hb6
                    have HWS := Lib.hid (ws_any w.heap.size w.heap.size out 0 ⟨#[63]⟩ w6 H6 (by show out.length + 1 ≤ _; omega) (Nat.le_of_lt H6.lt))
                    have L6 := Lib.hid (bl_step L4.out hb6)
                    have V3 : Hid (∃ k, ValN (out ++ [63]) k) := Lib.hid (by
                      obtain ⟨k, hk⟩ := HV2.out
                      exact ⟨k + 1, val_app hk (.cons (by decide) (by decide) (by exact .nil))⟩)
                    clear HD hb6 H6
                    go_wp2_with fail
                    refine HWS.out.mono ?_; rintro e w7 ⟨rfl, hB7, hb7⟩
                    have H7 : Hid (Bld w.heap.size w.heap.size (out ++ [63]) 0 w7) := Lib.hid hB7
                    have L7 := Lib.hid (L6.out.trans hb7)
                    clear HWS hB7 hb7
                    go_wp2_with fail
                    go_roundw
                    case rel => exact ⟨j + 1, true, out ++ [63], by go_num, Lib.hid rfl, by omega, by simp; omega, H7, L7, V3⟩
                    case measure => simp only [intOf]; omega
                  · go_wp2_with fail
                    refine HD.out.mono ?_; rintro e w6 ⟨rfl, hb6⟩
                    have H6 := Lib.hid (bld_below H4.out hb6)
                    have L6 := Lib.hid (bl_step L4.out hb6)
                    clear HD hb6
                    go_wp2_with fail
                    go_roundw
                    case rel => exact ⟨j + 1, true, out, by go_num, Lib.hid rfl, by omega, by omega, H6, L6, HV2⟩
                    case measure => simp only [intOf]; omega
                · rw [he] at HD
                  simp only at HD
                  have hvn := val_next HY.out hjl hp
                  have hKl : j + pointL (y.data.toList.drop j) ≤ y.size ∧ 1 ≤ pointL (y.data.toList.drop j) ∧ ¬ pointL (y.data.toList.drop j) = 1 := by
                    rw [hgd] at hp ⊢
                    obtain ⟨q, hq, hql, _⟩ := point_take hp
                    have hl : (y.data.toList.drop (j + 1)).length = y.size - (j + 1) := by rw [List.length_drop, ← Lib.size_eq]
                    refine ⟨by omega, by omega, fun h1 => ?_⟩
                    have : pointC y[j] (y.data.toList.drop (j + 1)) = 1 := h1
                    unfold pointC at this
                    rw [if_neg (by omega)] at this
                    repeat' split at this
                    all_goals omega
                  generalize hK : pointL (y.data.toList.drop j) = K at HD hvn hKl
                  obtain ⟨hK1, hK2, hK3⟩ := hKl
                  have hKn : ((K : Int) == 1) = false := by simp; omega
                  obtain ⟨q, hq⟩ : ∃ q, j + K = q := ⟨_, rfl⟩
                  have wK : IntKind.i64.wrap ((j : Int) + K) = (q : Int) := by rw [IntKind.wrap_i64]; omega
                  have k0 : (j : Int) ≤ (q : Int) := by omega
                  have k1 : (q : Int) ≤ y.size := by omega
                  have k2 : (0 : Int) ≤ (q : Int) := by omega
                  have eE : (y.extract j q).data.toList = (y.data.toList.drop j).take K := by rw [Lib.extract_data]; congr 1; omega
                  have eS : (y.extract j q).size = K := by rw [ByteArray.size_extract]; omega
                  have V3 : Hid (∃ k, ValN (out ++ (y.extract j q).data.toList) k) := Lib.hid (by
                    obtain ⟨k, hk⟩ := HV2.out
                    exact ⟨k + 1, val_app hk (by rw [eE]; exact hvn)⟩)
                  have lE : (out ++ (y.extract j q).data.toList).length = out.length + K := by rw [List.length_append, ← Lib.size_eq, eS]
                  replace hq := Lib.hid hq
                  clear hgd hne10 hc he hp hvn hK eE
                  go_wp2_with fail
                  refine HD.out.mono ?_; rintro e w6 ⟨rfl, hb6⟩
                  have H6 := bld_below H4.out hb6
                  have HWS := Lib.hid (ws_any w.heap.size w.heap.size out 0 (y.extract j q) w6 H6 (by rw [eS]; omega) (Nat.le_of_lt H6.lt))
                  have L6 := Lib.hid (bl_step L4.out hb6)
                  clear HD hb6 H6 eS
                  go_wp2_with fail
                  refine HWS.out.mono ?_; rintro e w7 ⟨rfl, hB7, hb7⟩
                  have H7 := Lib.hid hB7
                  have L7 := Lib.hid (L6.out.trans hb7)
                  clear HWS hB7 hb7
                  go_wp2_with fail
                  go_roundw
                  case rel => exact ⟨q, false, _, rfl, Lib.hid rfl, by omega, by rw [lE]; have := hq.out; omega, H7, L7, V3⟩
                  case measure => have := hq.out; simp only [intOf]; omega
            · obtain rfl : j = y.size := by omega
              have HST := Lib.hid (str_c w.heap.size out 0 wr H4.out (Nat.le_of_lt H4.out.lt))
              go_wp2_with fail
              refine HST.out.mono ?_; rintro e w7 ⟨rfl, hb7⟩
              have bl7 := L4.out.trans hb7
              obtain ⟨k, hk⟩ := HV2.out
              have KK := Lib.hid hk
              clear hk HV2
              go_wp2
              go_ret
              exact ⟨out, k, rfl, KK.out, by have := hys.out; omega, bl7⟩
        · rw [he] at HD
          have hk : (65533, K).2 = pointL (z.data.toList.drop i) := by
            rcases hdp with ⟨h, _⟩ | ⟨c', _, h, _⟩
            · exact absurd h hp
            · rw [h]
          obtain ⟨V2, hle2⟩ := next hp hk
          have hK2 : ¬ pointL (z.data.toList.drop i) = 1 := by
            intro h1
            rcases rune_byte i hps hd with ⟨q, q2, _⟩ | ⟨q, _⟩
            · omega
            · rw [get_drop z i hps] at h1
              have : pointC z[i] (z.data.toList.drop (i + 1)) = 1 := h1
              unfold pointC at this
              rw [if_neg (by omega)] at this
              repeat' split at this
              all_goals omega
          clear hdp next he hp hd
          simp only at HD hk
          rw [← hk] at HD hK2
          have hKn : ((K : Int) == 1) = false := by simp; omega
          go_wp2_with fail
          refine (HD.out _ W1.out).mono ?_; rintro e w2 ⟨rfl, hb2⟩
          have I2 := Lib.hid ((hb2.block _ (Array.getElem?_eq_some_iff.1 I1.out).1).trans I1.out)
          have B2 := Lib.hid (B1.out.below hb2)
          have W2 := Lib.hid (bl_step W1.out hb2)
          clear HD hb2
          go_wp2_with fail
          go_roundg g'
          case measure => omega
          case rel => exact ⟨i + K, n + 1, rfl, I2, B2, W2, V2, hle2, by omega⟩
      · have hr' : ((r : Int) == 65533) = false := by simp; omega
        have hn2 : ¬ pointL (z.data.toList.drop i) = 0 ∧ (r, K).2 = pointL (z.data.toList.drop i) := by
          rcases hdp with ⟨_, h, _⟩ | ⟨c', h, h2, _⟩
          · injection h with h _; exact absurd h hr
          · exact ⟨h, by rw [h2]⟩
        obtain ⟨V2, hle2⟩ := next hn2.1 hn2.2
        clear hdp next hn2 hd hex
        go_wp2_with fail
        go_roundg g'
        case measure => omega
        case rel => exact ⟨i + K, n + 1, rfl, I1, B1, W1, V2, hle2, by omega⟩
    · have hnx : ∀ ty, (Instr.next (.pointer (some ⟨w.heap.size + 1, 0, none⟩)) true ty).run Tryd.prog wr = _ := fun ty => Lib.run_next_end_at wr (w.heap.size + 1) z i ty HI.out hps
      obtain rfl : i = z.size := by omega
      have HC := Lib.hid (cap_c w.heap.size (.slice none 0 0) 0 wr ((HB.out.cell 1).trans rfl) ⟨_, _, rfl⟩ HB.out.lt)
      have hV := HV.out
      rw [List.take_of_length_le (by rw [← Lib.size_eq]; exact Nat.le_refl _)] at hV
      have VV := Lib.hid hV
      have WW := HW.out
      clear HI HB hV HV HW
      go_wp2_with fail
      refine HC.out.mono ?_; rintro e w5 ⟨rfl, hv⟩
      obtain rfl := hv.symm
      clear hv HC
      go_wp2
      go_ret
      exact ⟨z.data.toList, n, rfl, VV.out, by rw [← Lib.size_eq]; exact Nat.le_refl _, WW⟩
end Go.Proofs.YtidpenifabojnaaDoor
